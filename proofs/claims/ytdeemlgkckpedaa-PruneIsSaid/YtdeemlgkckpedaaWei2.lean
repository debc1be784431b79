import Derived.Test.YtdeemlgkckpedaaWei
set_option linter.unusedVariables false
set_option linter.unusedSimpArgs false
namespace Go.SL
open Go.Proofs

set_option maxRecDepth 100000 in
set_option maxHeartbeats 1000000 in
theorem grow_calls {w0 w : World} {l : List HProp} (pw pt : Nat) (t : TreeS) (o sm be lf : List Int) (hs : Sat w0 w ((TreeObj pt t) :: (WRaw pw pt o sm be lf) :: l)) (h1 : o.length ≤ t.nodes.length) (h2 : sm.length ≤ 256) (h3 : be.length ≤ 256) (h4 : lf.length ≤ 256) :
  Calls Try.prog 76 #[.pointer (some ⟨pw, 0, none⟩)] w (Ret w0 fun v l' => v = .tuple #[] ∧ l' = TreeObj pt t :: WRaw pw pt (growO t.nodes.length o) (sm ++ List.replicate (t.nodes.length - o.length) 0) (be ++ List.replicate (t.nodes.length - o.length) (-1)) (lf ++ List.replicate (t.nodes.length - o.length) (-1)) :: l) := by
 have hw := hs.treeWF
 have hm1 := hw.m1; have hm2 := hw.m2; have hle := hw.le; have hne := hw.ne; have hpa := hw.pa; have hnd := hw.nd
 obtain ⟨a1, c1, a2, c2, a3, c3, a4, c4, hs⟩ := (hs.pull 1).wrawOpen
 refine calls_enter Try.func76 rfl rfl rfl hs ?_
 refine cd_block ?_
 refine cd_pull4 ?_
 refine cd_pull4 ?_
 refine cd_pull4 ?_
 refine cd_pull4 ?_
 refine cd_pull4 ?_
 refine cd_loop2 (α := Nat × Option Addr × Nat × Option Addr × Nat × Option Addr × Nat × Option Addr × Nat) [(2, 48)] (fun x => []) (fun x => Blk pw (.cells #[.pointer (some ⟨pt, 0, none⟩), .slice x.2.1 (o ++ List.replicate x.1 (0)).length x.2.2.1, .slice x.2.2.2.1 (sm ++ List.replicate x.1 (0)).length x.2.2.2.2.1, .slice x.2.2.2.2.2.1 (be ++ List.replicate x.1 (-1)).length x.2.2.2.2.2.2.1, .slice x.2.2.2.2.2.2.2.1 (lf ++ List.replicate x.1 (-1)).length x.2.2.2.2.2.2.2.2] 116 (0, 0)) :: Row 3 encI64 (.slice x.2.1 (o ++ List.replicate x.1 (0)).length x.2.2.1) (o ++ List.replicate x.1 (0)) :: Row 3 encI64 (.slice x.2.2.2.1 (sm ++ List.replicate x.1 (0)).length x.2.2.2.2.1) (sm ++ List.replicate x.1 (0)) :: Row 3 encI64 (.slice x.2.2.2.2.2.1 (be ++ List.replicate x.1 (-1)).length x.2.2.2.2.2.2.1) (be ++ List.replicate x.1 (-1)) :: Row 3 encI64 (.slice x.2.2.2.2.2.2.2.1 (lf ++ List.replicate x.1 (-1)).length x.2.2.2.2.2.2.2.2) (lf ++ List.replicate x.1 (-1)) :: _) (fun x => x.1 ≤ (t.nodes.length - o.length)) (fun x => (t.nodes.length - o.length) - x.1) (0, a1, c1, a2, c2, a3, c3, a4, c4) (Nat.zero_le _) trivial (fun _ s => by (try dsimp only); simp only [List.replicate_zero, List.append_nil]; exact s) ?_
 rintro ⟨i, b1, d1, b2, d2, b3, d3, b4, d4⟩ hi f; (try dsimp only at hi ⊢)
 refine cd_seq ?_
 refine cd_pull5 ?_
 refine cd_seq ?_
 refine cd_draw (M := [_]) mx [9] (by kernel_rfl) ?_
 refine rg_q (wn_none rfl) (op_move (v := .pointer _) rfl) rfl rfl ?_
 refine rg_q (wn_none rfl) (op_nilck rfl) rfl rfl ?_
 refine rg_q (wn_none rfl) (op_field fld_116_1 rfl) rfl rfl ?_
 refine rg_q (wn_none rfl) (op_ld 0 sc_42 rfl rfl rfl) rfl rfl ?_
 refine rg_q (wn_none rfl) (op_len_slice Try.underlying42 rfl) rfl rfl ?_
 refine rg_q (wn_none rfl) (op_move (v := .pointer _) rfl) rfl rfl ?_
 refine rg_q (wn_none rfl) (op_nilck rfl) rfl rfl ?_
 refine rg_q (wn_none rfl) (op_field fld_116_0 rfl) rfl rfl ?_
 refine rg_q (wn_none rfl) (op_ld 0 sc_26 rfl rfl rfl) rfl rfl ?_
 refine rg_i (wn_none rfl) (os_call cb_29 rfl (fun w s => Len_calls _ _  s )) rfl rfl ?_; rintro _ _ ⟨rfl, rfl⟩; refine ⟨[_], rfl, ?_⟩
 refine rg_q (wn_none rfl) (op_lt rfl rfl) rfl rfl ?_
 refine rg_nil_then1 ?_
 refine cd_cond rfl (fun hb1 => ?_) (fun hb1 => ?_)
 ·have hp1 := hb1
  (try simp only [bn] at hp1)
  have hi1 : i < (t.nodes.length - o.length) := by rw [List.length_append, List.length_replicate] at hp1; omega
  refine cd_skip ?_
  refine px_then ?_
  refine cd_block ?_
  refine cd_cut (α := Option Addr × Nat × Option Addr × Nat) [(13, 30)] (fun y => []) (fun y => Blk pw (.cells #[.pointer (some ⟨pt, 0, none⟩), .slice y.1 (o ++ List.replicate (i + 1) (0)).length y.2.1, .slice y.2.2.1 (sm ++ List.replicate (i + 1) (0)).length y.2.2.2, .slice b3 (be ++ List.replicate i (-1)).length d3, .slice b4 (lf ++ List.replicate i (-1)).length d4] 116 (0, 0)) :: Row 3 encI64 (.slice y.1 (o ++ List.replicate (i + 1) (0)).length y.2.1) (o ++ List.replicate (i + 1) (0)) :: Row 3 encI64 (.slice y.2.2.1 (sm ++ List.replicate (i + 1) (0)).length y.2.2.2) (sm ++ List.replicate (i + 1) (0)) :: Row 3 encI64 (.slice b3 (be ++ List.replicate i (-1)).length d3) (be ++ List.replicate i (-1)) :: Row 3 encI64 (.slice b4 (lf ++ List.replicate i (-1)).length d4) (lf ++ List.replicate i (-1)) :: TreeObj pt t :: l) ?_ ?_
  ·
   refine cd_pull3 ?_
   refine cd_pull3 ?_
   refine cd_pull3 ?_
   refine cd_drawe (M := [_, _, _]) mx [5, 6, 7, 11, 12, 13, 16, 19] ?_
   refine e_q 0 rfl (wn_none rfl) (op_move (v := .pointer _) rfl) ?_
   refine e_q 1 rfl (wn_none rfl) (op_move (v := .pointer _) rfl) ?_
   refine e_q 2 rfl (wn_none rfl) (op_move (v := .pointer _) rfl) ?_
   refine e_q 3 rfl (wn_none rfl) (op_nilck rfl) ?_
   refine e_q 4 rfl (wn_none rfl) (op_field fld_116_1 rfl) ?_
   refine e_q 8 rfl (wn_none rfl) (op_move (v := .pointer _) rfl) ?_
   refine e_q 9 rfl (wn_none rfl) (op_nilck rfl) ?_
   refine e_q 10 rfl (wn_none rfl) (op_field fld_116_2 rfl) ?_
   refine et_4 (i1 := 5) (i2 := 6) (i3 := 11) (i4 := 12) (by kernel_rfl) ?_ ?_ ?_ ?_
   ·
    refine ei_i rfl rfl (wn_none rfl) (os_q (op_ld 0 sc_42 rfl rfl rfl)) rfl ?_; rintro _ _ ⟨rfl, rfl⟩; refine ⟨[_, _, _], rfl, ?_⟩
    refine et_3 (i1 := 6) (i2 := 11) (i3 := 12) (by kernel_rfl) ?_ ?_ ?_
    ·
     refine ei_i rfl rfl (wn_none rfl) (os_bslice (E := encI64) [_] (ys := [_]) sB_42 zv_3 rfl rfl rfl rfl (by decide)) rfl ?_; rintro _ _ ⟨ao1, rfl, rfl⟩; refine ⟨[_, _, _, _], rfl, ?_⟩
     refine et_3 (i1 := 7) (i2 := 11) (i3 := 12) (by kernel_rfl) ?_ ?_ ?_
     ·
      refine ei_i rfl rfl (wn_none rfl) (os_pull2 (os_append (E := encI64) rfl sB_42 zv_3 rfl rfl rfl (fun w s => (rds_row 1 rfl rfl) [] w s) rfl (by simp; omega) (by unfold maxLen; simp; omega))) rfl ?_; rintro _ _ ⟨ao2, ac2, rfl, rfl⟩; refine ⟨[_, _, _, _], rfl, ?_⟩
      refine et_2 (i1 := 11) (i2 := 12) (by kernel_rfl) ?_ ?_
      ·
       refine ei_i rfl rfl (wn_none rfl) (os_q (op_ld 2 sc_42 rfl rfl rfl)) rfl ?_; rintro _ _ ⟨rfl, rfl⟩; refine ⟨[_, _, _, _], rfl, ?_⟩
       refine et_1 (i := 12) (by kernel_rfl) ?_
       refine ei_i rfl rfl (wn_none rfl) (os_bslice (E := encI64) [_] (ys := [_]) sB_42 zv_3 rfl rfl rfl rfl (by decide)) rfl ?_; rintro _ _ ⟨ao3, rfl, rfl⟩; refine ⟨[_, _, _, _, _], rfl, ?_⟩
       refine et_1 (i := 13) (by kernel_rfl) ?_
       refine ei_i rfl rfl (wn_none rfl) (os_pull4 (os_append (E := encI64) rfl sB_42 zv_3 rfl rfl rfl (fun w s => (rds_row 1 rfl rfl) [] w s) rfl (by simp; omega) (by unfold maxLen; simp; omega))) rfl ?_; rintro _ _ ⟨ao4, ac4, rfl, rfl⟩; refine ⟨[_, _, _, _, _], rfl, ?_⟩
       refine e_q 14 rfl (wn_none rfl) (op_nilck rfl) ?_
       refine e_q 15 rfl (wn_none rfl) (op_field fld_116_1 rfl) ?_
       refine et_1 (i := 16) (by kernel_rfl) ?_
       refine ei_iN rfl rfl (wn_none rfl) (os_pull4 (os_store (v := .slice _ _ _) sc_42 rfl rfl rfl rfl (Free.zero _) rfl)) ?_; rintro _ _ ⟨rfl, rfl⟩; refine ⟨[_, _, _, _, _], rfl, ?_⟩
       refine e_q 17 rfl (wn_none rfl) (op_nilck rfl) ?_
       refine e_q 18 rfl (wn_none rfl) (op_field fld_116_2 rfl) ?_
       refine et_1 (i := 19) (by kernel_rfl) ?_
       refine ei_iN rfl rfl (wn_none rfl) (os_store (v := .slice _ _ _) sc_42 rfl rfl rfl rfl (Free.zero _) rfl) ?_; rintro _ _ ⟨rfl, rfl⟩; refine ⟨[_, _, _, _, _], rfl, ?_⟩
       refine et_nil (by kernel_rfl) ?_
       refine px_cut (ao2, ac2, ao4, ac4) trivial ?_ (fun _ s => (by (try dsimp only); simp only [← rep_snoc]; exact ((((((((s.del 4).del 2).pull 3).pull 5).pull 5).pull 4).pull 5).pull 5)))
       repeat (first | exact kept_self | exact kept_over | refine kept_upd rfl ?_ | refine kept_overS (by decide) ?_)
      ·
       refine ei_i rfl rfl (wn_none rfl) (os_bslice (E := encI64) [_] (ys := [_]) sB_42 zv_3 rfl rfl rfl rfl (by decide)) rfl ?_; rintro _ _ ⟨ao5, rfl, rfl⟩; refine ⟨[_, _, _, _, _], rfl, ?_⟩
       refine et_1 (i := 11) (by kernel_rfl) ?_
       refine ei_i rfl rfl (wn_none rfl) (os_q (op_ld 3 sc_42 rfl rfl rfl)) rfl ?_; rintro _ _ ⟨rfl, rfl⟩; refine ⟨[_, _, _, _, _], rfl, ?_⟩
       refine et_1 (i := 13) (by kernel_rfl) ?_
       refine ei_i rfl rfl (wn_none rfl) (os_pull4 (os_append (E := encI64) rfl sB_42 zv_3 rfl rfl rfl (fun w s => (rds_row 1 rfl rfl) [] w s) rfl (by simp; omega) (by unfold maxLen; simp; omega))) rfl ?_; rintro _ _ ⟨ao6, ac6, rfl, rfl⟩; refine ⟨[_, _, _, _, _], rfl, ?_⟩
       refine e_q 14 rfl (wn_none rfl) (op_nilck rfl) ?_
       refine e_q 15 rfl (wn_none rfl) (op_field fld_116_1 rfl) ?_
       refine et_1 (i := 16) (by kernel_rfl) ?_
       refine ei_iN rfl rfl (wn_none rfl) (os_pull4 (os_store (v := .slice _ _ _) sc_42 rfl rfl rfl rfl (Free.zero _) rfl)) ?_; rintro _ _ ⟨rfl, rfl⟩; refine ⟨[_, _, _, _, _], rfl, ?_⟩
       refine e_q 17 rfl (wn_none rfl) (op_nilck rfl) ?_
       refine e_q 18 rfl (wn_none rfl) (op_field fld_116_2 rfl) ?_
       refine et_1 (i := 19) (by kernel_rfl) ?_
       refine ei_iN rfl rfl (wn_none rfl) (os_store (v := .slice _ _ _) sc_42 rfl rfl rfl rfl (Free.zero _) rfl) ?_; rintro _ _ ⟨rfl, rfl⟩; refine ⟨[_, _, _, _, _], rfl, ?_⟩
       refine et_nil (by kernel_rfl) ?_
       refine px_cut (ao2, ac2, ao6, ac6) trivial ?_ (fun _ s => (by (try dsimp only); simp only [← rep_snoc]; exact ((((((((s.del 4).del 2).pull 3).pull 5).pull 5).pull 4).pull 5).pull 5)))
       repeat (first | exact kept_self | exact kept_over | refine kept_upd rfl ?_ | refine kept_overS (by decide) ?_)
     ·
      refine ei_i rfl rfl (wn_none rfl) (os_q (op_ld 1 sc_42 rfl rfl rfl)) rfl ?_; rintro _ _ ⟨rfl, rfl⟩; refine ⟨[_, _, _, _], rfl, ?_⟩
      refine et_2 (i1 := 7) (i2 := 12) (by kernel_rfl) ?_ ?_
      ·
       refine ei_i rfl rfl (wn_none rfl) (os_pull2 (os_append (E := encI64) rfl sB_42 zv_3 rfl rfl rfl (fun w s => (rds_row 1 rfl rfl) [] w s) rfl (by simp; omega) (by unfold maxLen; simp; omega))) rfl ?_; rintro _ _ ⟨ao7, ac7, rfl, rfl⟩; refine ⟨[_, _, _, _], rfl, ?_⟩
       refine et_1 (i := 12) (by kernel_rfl) ?_
       refine ei_i rfl rfl (wn_none rfl) (os_bslice (E := encI64) [_] (ys := [_]) sB_42 zv_3 rfl rfl rfl rfl (by decide)) rfl ?_; rintro _ _ ⟨ao8, rfl, rfl⟩; refine ⟨[_, _, _, _, _], rfl, ?_⟩
       refine et_1 (i := 13) (by kernel_rfl) ?_
       refine ei_i rfl rfl (wn_none rfl) (os_pull4 (os_append (E := encI64) rfl sB_42 zv_3 rfl rfl rfl (fun w s => (rds_row 1 rfl rfl) [] w s) rfl (by simp; omega) (by unfold maxLen; simp; omega))) rfl ?_; rintro _ _ ⟨ao9, ac9, rfl, rfl⟩; refine ⟨[_, _, _, _, _], rfl, ?_⟩
       refine e_q 14 rfl (wn_none rfl) (op_nilck rfl) ?_
       refine e_q 15 rfl (wn_none rfl) (op_field fld_116_1 rfl) ?_
       refine et_1 (i := 16) (by kernel_rfl) ?_
       refine ei_iN rfl rfl (wn_none rfl) (os_pull4 (os_store (v := .slice _ _ _) sc_42 rfl rfl rfl rfl (Free.zero _) rfl)) ?_; rintro _ _ ⟨rfl, rfl⟩; refine ⟨[_, _, _, _, _], rfl, ?_⟩
       refine e_q 17 rfl (wn_none rfl) (op_nilck rfl) ?_
       refine e_q 18 rfl (wn_none rfl) (op_field fld_116_2 rfl) ?_
       refine et_1 (i := 19) (by kernel_rfl) ?_
       refine ei_iN rfl rfl (wn_none rfl) (os_store (v := .slice _ _ _) sc_42 rfl rfl rfl rfl (Free.zero _) rfl) ?_; rintro _ _ ⟨rfl, rfl⟩; refine ⟨[_, _, _, _, _], rfl, ?_⟩
       refine et_nil (by kernel_rfl) ?_
       refine px_cut (ao7, ac7, ao9, ac9) trivial ?_ (fun _ s => (by (try dsimp only); simp only [← rep_snoc]; exact ((((((((s.del 4).del 2).pull 3).pull 5).pull 5).pull 4).pull 5).pull 5)))
       repeat (first | exact kept_self | exact kept_over | refine kept_upd rfl ?_ | refine kept_overS (by decide) ?_)
      ·
       refine ei_i rfl rfl (wn_none rfl) (os_bslice (E := encI64) [_] (ys := [_]) sB_42 zv_3 rfl rfl rfl rfl (by decide)) rfl ?_; rintro _ _ ⟨ao10, rfl, rfl⟩; refine ⟨[_, _, _, _, _], rfl, ?_⟩
       refine et_1 (i := 7) (by kernel_rfl) ?_
       refine ei_i rfl rfl (wn_none rfl) (os_pull3 (os_append (E := encI64) rfl sB_42 zv_3 rfl rfl rfl (fun w s => (rds_row 2 rfl rfl) [] w s) rfl (by simp; omega) (by unfold maxLen; simp; omega))) rfl ?_; rintro _ _ ⟨ao11, ac11, rfl, rfl⟩; refine ⟨[_, _, _, _, _], rfl, ?_⟩
       refine et_1 (i := 13) (by kernel_rfl) ?_
       refine ei_i rfl rfl (wn_none rfl) (os_pull4 (os_append (E := encI64) rfl sB_42 zv_3 rfl rfl rfl (fun w s => (rds_row 2 rfl rfl) [] w s) rfl (by simp; omega) (by unfold maxLen; simp; omega))) rfl ?_; rintro _ _ ⟨ao12, ac12, rfl, rfl⟩; refine ⟨[_, _, _, _, _], rfl, ?_⟩
       refine e_q 14 rfl (wn_none rfl) (op_nilck rfl) ?_
       refine e_q 15 rfl (wn_none rfl) (op_field fld_116_1 rfl) ?_
       refine et_1 (i := 16) (by kernel_rfl) ?_
       refine ei_iN rfl rfl (wn_none rfl) (os_pull4 (os_store (v := .slice _ _ _) sc_42 rfl rfl rfl rfl (Free.zero _) rfl)) ?_; rintro _ _ ⟨rfl, rfl⟩; refine ⟨[_, _, _, _, _], rfl, ?_⟩
       refine e_q 17 rfl (wn_none rfl) (op_nilck rfl) ?_
       refine e_q 18 rfl (wn_none rfl) (op_field fld_116_2 rfl) ?_
       refine et_1 (i := 19) (by kernel_rfl) ?_
       refine ei_iN rfl rfl (wn_none rfl) (os_store (v := .slice _ _ _) sc_42 rfl rfl rfl rfl (Free.zero _) rfl) ?_; rintro _ _ ⟨rfl, rfl⟩; refine ⟨[_, _, _, _, _], rfl, ?_⟩
       refine et_nil (by kernel_rfl) ?_
       refine px_cut (ao11, ac11, ao12, ac12) trivial ?_ (fun _ s => (by (try dsimp only); simp only [← rep_snoc]; exact ((((((((s.del 4).del 3).pull 3).pull 5).pull 5).pull 4).pull 5).pull 5)))
       repeat (first | exact kept_self | exact kept_over | refine kept_upd rfl ?_ | refine kept_overS (by decide) ?_)
     ·
      refine ei_i rfl rfl (wn_none rfl) (os_bslice (E := encI64) [_] (ys := [_]) sB_42 zv_3 rfl rfl rfl rfl (by decide)) rfl ?_; rintro _ _ ⟨ao13, rfl, rfl⟩; refine ⟨[_, _, _, _, _], rfl, ?_⟩
      refine et_2 (i1 := 7) (i2 := 11) (by kernel_rfl) ?_ ?_
      ·
       refine ei_i rfl rfl (wn_none rfl) (os_pull3 (os_append (E := encI64) rfl sB_42 zv_3 rfl rfl rfl (fun w s => (rds_row 2 rfl rfl) [] w s) rfl (by simp; omega) (by unfold maxLen; simp; omega))) rfl ?_; rintro _ _ ⟨ao14, ac14, rfl, rfl⟩; refine ⟨[_, _, _, _, _], rfl, ?_⟩
       refine et_1 (i := 11) (by kernel_rfl) ?_
       refine ei_i rfl rfl (wn_none rfl) (os_q (op_ld 3 sc_42 rfl rfl rfl)) rfl ?_; rintro _ _ ⟨rfl, rfl⟩; refine ⟨[_, _, _, _, _], rfl, ?_⟩
       refine et_1 (i := 13) (by kernel_rfl) ?_
       refine ei_i rfl rfl (wn_none rfl) (os_pull4 (os_append (E := encI64) rfl sB_42 zv_3 rfl rfl rfl (fun w s => (rds_row 2 rfl rfl) [] w s) rfl (by simp; omega) (by unfold maxLen; simp; omega))) rfl ?_; rintro _ _ ⟨ao15, ac15, rfl, rfl⟩; refine ⟨[_, _, _, _, _], rfl, ?_⟩
       refine e_q 14 rfl (wn_none rfl) (op_nilck rfl) ?_
       refine e_q 15 rfl (wn_none rfl) (op_field fld_116_1 rfl) ?_
       refine et_1 (i := 16) (by kernel_rfl) ?_
       refine ei_iN rfl rfl (wn_none rfl) (os_pull4 (os_store (v := .slice _ _ _) sc_42 rfl rfl rfl rfl (Free.zero _) rfl)) ?_; rintro _ _ ⟨rfl, rfl⟩; refine ⟨[_, _, _, _, _], rfl, ?_⟩
       refine e_q 17 rfl (wn_none rfl) (op_nilck rfl) ?_
       refine e_q 18 rfl (wn_none rfl) (op_field fld_116_2 rfl) ?_
       refine et_1 (i := 19) (by kernel_rfl) ?_
       refine ei_iN rfl rfl (wn_none rfl) (os_store (v := .slice _ _ _) sc_42 rfl rfl rfl rfl (Free.zero _) rfl) ?_; rintro _ _ ⟨rfl, rfl⟩; refine ⟨[_, _, _, _, _], rfl, ?_⟩
       refine et_nil (by kernel_rfl) ?_
       refine px_cut (ao14, ac14, ao15, ac15) trivial ?_ (fun _ s => (by (try dsimp only); simp only [← rep_snoc]; exact ((((((((s.del 4).del 3).pull 3).pull 5).pull 5).pull 4).pull 5).pull 5)))
       repeat (first | exact kept_self | exact kept_over | refine kept_upd rfl ?_ | refine kept_overS (by decide) ?_)
      ·
       refine ei_i rfl rfl (wn_none rfl) (os_q (op_ld 2 sc_42 rfl rfl rfl)) rfl ?_; rintro _ _ ⟨rfl, rfl⟩; refine ⟨[_, _, _, _, _], rfl, ?_⟩
       refine et_1 (i := 7) (by kernel_rfl) ?_
       refine ei_i rfl rfl (wn_none rfl) (os_pull3 (os_append (E := encI64) rfl sB_42 zv_3 rfl rfl rfl (fun w s => (rds_row 2 rfl rfl) [] w s) rfl (by simp; omega) (by unfold maxLen; simp; omega))) rfl ?_; rintro _ _ ⟨ao16, ac16, rfl, rfl⟩; refine ⟨[_, _, _, _, _], rfl, ?_⟩
       refine et_1 (i := 13) (by kernel_rfl) ?_
       refine ei_i rfl rfl (wn_none rfl) (os_pull4 (os_append (E := encI64) rfl sB_42 zv_3 rfl rfl rfl (fun w s => (rds_row 2 rfl rfl) [] w s) rfl (by simp; omega) (by unfold maxLen; simp; omega))) rfl ?_; rintro _ _ ⟨ao17, ac17, rfl, rfl⟩; refine ⟨[_, _, _, _, _], rfl, ?_⟩
       refine e_q 14 rfl (wn_none rfl) (op_nilck rfl) ?_
       refine e_q 15 rfl (wn_none rfl) (op_field fld_116_1 rfl) ?_
       refine et_1 (i := 16) (by kernel_rfl) ?_
       refine ei_iN rfl rfl (wn_none rfl) (os_pull4 (os_store (v := .slice _ _ _) sc_42 rfl rfl rfl rfl (Free.zero _) rfl)) ?_; rintro _ _ ⟨rfl, rfl⟩; refine ⟨[_, _, _, _, _], rfl, ?_⟩
       refine e_q 17 rfl (wn_none rfl) (op_nilck rfl) ?_
       refine e_q 18 rfl (wn_none rfl) (op_field fld_116_2 rfl) ?_
       refine et_1 (i := 19) (by kernel_rfl) ?_
       refine ei_iN rfl rfl (wn_none rfl) (os_store (v := .slice _ _ _) sc_42 rfl rfl rfl rfl (Free.zero _) rfl) ?_; rintro _ _ ⟨rfl, rfl⟩; refine ⟨[_, _, _, _, _], rfl, ?_⟩
       refine et_nil (by kernel_rfl) ?_
       refine px_cut (ao16, ac16, ao17, ac17) trivial ?_ (fun _ s => (by (try dsimp only); simp only [← rep_snoc]; exact ((((((((s.del 4).del 3).pull 3).pull 5).pull 5).pull 4).pull 5).pull 5)))
       repeat (first | exact kept_self | exact kept_over | refine kept_upd rfl ?_ | refine kept_overS (by decide) ?_)
    ·
     refine ei_i rfl rfl (wn_none rfl) (os_q (op_ld 0 sc_42 rfl rfl rfl)) rfl ?_; rintro _ _ ⟨rfl, rfl⟩; refine ⟨[_, _, _], rfl, ?_⟩
     refine et_2 (i1 := 6) (i2 := 12) (by kernel_rfl) ?_ ?_
     ·
      refine ei_i rfl rfl (wn_none rfl) (os_bslice (E := encI64) [_] (ys := [_]) sB_42 zv_3 rfl rfl rfl rfl (by decide)) rfl ?_; rintro _ _ ⟨ao18, rfl, rfl⟩; refine ⟨[_, _, _, _], rfl, ?_⟩
      refine et_2 (i1 := 7) (i2 := 12) (by kernel_rfl) ?_ ?_
      ·
       refine ei_i rfl rfl (wn_none rfl) (os_pull2 (os_append (E := encI64) rfl sB_42 zv_3 rfl rfl rfl (fun w s => (rds_row 1 rfl rfl) [] w s) rfl (by simp; omega) (by unfold maxLen; simp; omega))) rfl ?_; rintro _ _ ⟨ao19, ac19, rfl, rfl⟩; refine ⟨[_, _, _, _], rfl, ?_⟩
       refine et_1 (i := 12) (by kernel_rfl) ?_
       refine ei_i rfl rfl (wn_none rfl) (os_bslice (E := encI64) [_] (ys := [_]) sB_42 zv_3 rfl rfl rfl rfl (by decide)) rfl ?_; rintro _ _ ⟨ao20, rfl, rfl⟩; refine ⟨[_, _, _, _, _], rfl, ?_⟩
       refine et_1 (i := 13) (by kernel_rfl) ?_
       refine ei_i rfl rfl (wn_none rfl) (os_pull4 (os_append (E := encI64) rfl sB_42 zv_3 rfl rfl rfl (fun w s => (rds_row 1 rfl rfl) [] w s) rfl (by simp; omega) (by unfold maxLen; simp; omega))) rfl ?_; rintro _ _ ⟨ao21, ac21, rfl, rfl⟩; refine ⟨[_, _, _, _, _], rfl, ?_⟩
       refine e_q 14 rfl (wn_none rfl) (op_nilck rfl) ?_
       refine e_q 15 rfl (wn_none rfl) (op_field fld_116_1 rfl) ?_
       refine et_1 (i := 16) (by kernel_rfl) ?_
       refine ei_iN rfl rfl (wn_none rfl) (os_pull4 (os_store (v := .slice _ _ _) sc_42 rfl rfl rfl rfl (Free.zero _) rfl)) ?_; rintro _ _ ⟨rfl, rfl⟩; refine ⟨[_, _, _, _, _], rfl, ?_⟩
       refine e_q 17 rfl (wn_none rfl) (op_nilck rfl) ?_
       refine e_q 18 rfl (wn_none rfl) (op_field fld_116_2 rfl) ?_
       refine et_1 (i := 19) (by kernel_rfl) ?_
       refine ei_iN rfl rfl (wn_none rfl) (os_store (v := .slice _ _ _) sc_42 rfl rfl rfl rfl (Free.zero _) rfl) ?_; rintro _ _ ⟨rfl, rfl⟩; refine ⟨[_, _, _, _, _], rfl, ?_⟩
       refine et_nil (by kernel_rfl) ?_
       refine px_cut (ao19, ac19, ao21, ac21) trivial ?_ (fun _ s => (by (try dsimp only); simp only [← rep_snoc]; exact ((((((((s.del 4).del 2).pull 3).pull 5).pull 5).pull 4).pull 5).pull 5)))
       repeat (first | exact kept_self | exact kept_over | refine kept_upd rfl ?_ | refine kept_overS (by decide) ?_)
      ·
       refine ei_i rfl rfl (wn_none rfl) (os_bslice (E := encI64) [_] (ys := [_]) sB_42 zv_3 rfl rfl rfl rfl (by decide)) rfl ?_; rintro _ _ ⟨ao22, rfl, rfl⟩; refine ⟨[_, _, _, _, _], rfl, ?_⟩
       refine et_1 (i := 7) (by kernel_rfl) ?_
       refine ei_i rfl rfl (wn_none rfl) (os_pull3 (os_append (E := encI64) rfl sB_42 zv_3 rfl rfl rfl (fun w s => (rds_row 2 rfl rfl) [] w s) rfl (by simp; omega) (by unfold maxLen; simp; omega))) rfl ?_; rintro _ _ ⟨ao23, ac23, rfl, rfl⟩; refine ⟨[_, _, _, _, _], rfl, ?_⟩
       refine et_1 (i := 13) (by kernel_rfl) ?_
       refine ei_i rfl rfl (wn_none rfl) (os_pull4 (os_append (E := encI64) rfl sB_42 zv_3 rfl rfl rfl (fun w s => (rds_row 2 rfl rfl) [] w s) rfl (by simp; omega) (by unfold maxLen; simp; omega))) rfl ?_; rintro _ _ ⟨ao24, ac24, rfl, rfl⟩; refine ⟨[_, _, _, _, _], rfl, ?_⟩
       refine e_q 14 rfl (wn_none rfl) (op_nilck rfl) ?_
       refine e_q 15 rfl (wn_none rfl) (op_field fld_116_1 rfl) ?_
       refine et_1 (i := 16) (by kernel_rfl) ?_
       refine ei_iN rfl rfl (wn_none rfl) (os_pull4 (os_store (v := .slice _ _ _) sc_42 rfl rfl rfl rfl (Free.zero _) rfl)) ?_; rintro _ _ ⟨rfl, rfl⟩; refine ⟨[_, _, _, _, _], rfl, ?_⟩
       refine e_q 17 rfl (wn_none rfl) (op_nilck rfl) ?_
       refine e_q 18 rfl (wn_none rfl) (op_field fld_116_2 rfl) ?_
       refine et_1 (i := 19) (by kernel_rfl) ?_
       refine ei_iN rfl rfl (wn_none rfl) (os_store (v := .slice _ _ _) sc_42 rfl rfl rfl rfl (Free.zero _) rfl) ?_; rintro _ _ ⟨rfl, rfl⟩; refine ⟨[_, _, _, _, _], rfl, ?_⟩
       refine et_nil (by kernel_rfl) ?_
       refine px_cut (ao23, ac23, ao24, ac24) trivial ?_ (fun _ s => (by (try dsimp only); simp only [← rep_snoc]; exact ((((((((s.del 4).del 3).pull 3).pull 5).pull 5).pull 4).pull 5).pull 5)))
       repeat (first | exact kept_self | exact kept_over | refine kept_upd rfl ?_ | refine kept_overS (by decide) ?_)
     ·
      refine ei_i rfl rfl (wn_none rfl) (os_bslice (E := encI64) [_] (ys := [_]) sB_42 zv_3 rfl rfl rfl rfl (by decide)) rfl ?_; rintro _ _ ⟨ao25, rfl, rfl⟩; refine ⟨[_, _, _, _], rfl, ?_⟩
      refine et_1 (i := 6) (by kernel_rfl) ?_
      refine ei_i rfl rfl (wn_none rfl) (os_bslice (E := encI64) [_] (ys := [_]) sB_42 zv_3 rfl rfl rfl rfl (by decide)) rfl ?_; rintro _ _ ⟨ao26, rfl, rfl⟩; refine ⟨[_, _, _, _, _], rfl, ?_⟩
      refine et_1 (i := 7) (by kernel_rfl) ?_
      refine ei_i rfl rfl (wn_none rfl) (os_pull3 (os_append (E := encI64) rfl sB_42 zv_3 rfl rfl rfl (fun w s => (rds_row 1 rfl rfl) [] w s) rfl (by simp; omega) (by unfold maxLen; simp; omega))) rfl ?_; rintro _ _ ⟨ao27, ac27, rfl, rfl⟩; refine ⟨[_, _, _, _, _], rfl, ?_⟩
      refine et_1 (i := 13) (by kernel_rfl) ?_
      refine ei_i rfl rfl (wn_none rfl) (os_pull4 (os_append (E := encI64) rfl sB_42 zv_3 rfl rfl rfl (fun w s => (rds_row 3 rfl rfl) [] w s) rfl (by simp; omega) (by unfold maxLen; simp; omega))) rfl ?_; rintro _ _ ⟨ao28, ac28, rfl, rfl⟩; refine ⟨[_, _, _, _, _], rfl, ?_⟩
      refine e_q 14 rfl (wn_none rfl) (op_nilck rfl) ?_
      refine e_q 15 rfl (wn_none rfl) (op_field fld_116_1 rfl) ?_
      refine et_1 (i := 16) (by kernel_rfl) ?_
      refine ei_iN rfl rfl (wn_none rfl) (os_pull4 (os_store (v := .slice _ _ _) sc_42 rfl rfl rfl rfl (Free.zero _) rfl)) ?_; rintro _ _ ⟨rfl, rfl⟩; refine ⟨[_, _, _, _, _], rfl, ?_⟩
      refine e_q 17 rfl (wn_none rfl) (op_nilck rfl) ?_
      refine e_q 18 rfl (wn_none rfl) (op_field fld_116_2 rfl) ?_
      refine et_1 (i := 19) (by kernel_rfl) ?_
      refine ei_iN rfl rfl (wn_none rfl) (os_store (v := .slice _ _ _) sc_42 rfl rfl rfl rfl (Free.zero _) rfl) ?_; rintro _ _ ⟨rfl, rfl⟩; refine ⟨[_, _, _, _, _], rfl, ?_⟩
      refine et_nil (by kernel_rfl) ?_
      refine px_cut (ao27, ac27, ao28, ac28) trivial ?_ (fun _ s => (by (try dsimp only); simp only [← rep_snoc]; exact ((((((((s.del 4).del 3).pull 3).pull 5).pull 5).pull 4).pull 5).pull 5)))
      repeat (first | exact kept_self | exact kept_over | refine kept_upd rfl ?_ | refine kept_overS (by decide) ?_)
    ·
     refine ei_i rfl rfl (wn_none rfl) (os_bslice (E := encI64) [_] (ys := [_]) sB_42 zv_3 rfl rfl rfl rfl (by decide)) rfl ?_; rintro _ _ ⟨ao29, rfl, rfl⟩; refine ⟨[_, _, _, _], rfl, ?_⟩
     refine et_2 (i1 := 6) (i2 := 11) (by kernel_rfl) ?_ ?_
     ·
      refine ei_i rfl rfl (wn_none rfl) (os_bslice (E := encI64) [_] (ys := [_]) sB_42 zv_3 rfl rfl rfl rfl (by decide)) rfl ?_; rintro _ _ ⟨ao30, rfl, rfl⟩; refine ⟨[_, _, _, _, _], rfl, ?_⟩
      refine et_2 (i1 := 7) (i2 := 11) (by kernel_rfl) ?_ ?_
      ·
       refine ei_i rfl rfl (wn_none rfl) (os_pull3 (os_append (E := encI64) rfl sB_42 zv_3 rfl rfl rfl (fun w s => (rds_row 1 rfl rfl) [] w s) rfl (by simp; omega) (by unfold maxLen; simp; omega))) rfl ?_; rintro _ _ ⟨ao31, ac31, rfl, rfl⟩; refine ⟨[_, _, _, _, _], rfl, ?_⟩
       refine et_1 (i := 11) (by kernel_rfl) ?_
       refine ei_i rfl rfl (wn_none rfl) (os_q (op_ld 3 sc_42 rfl rfl rfl)) rfl ?_; rintro _ _ ⟨rfl, rfl⟩; refine ⟨[_, _, _, _, _], rfl, ?_⟩
       refine et_1 (i := 13) (by kernel_rfl) ?_
       refine ei_i rfl rfl (wn_none rfl) (os_pull4 (os_append (E := encI64) rfl sB_42 zv_3 rfl rfl rfl (fun w s => (rds_row 3 rfl rfl) [] w s) rfl (by simp; omega) (by unfold maxLen; simp; omega))) rfl ?_; rintro _ _ ⟨ao32, ac32, rfl, rfl⟩; refine ⟨[_, _, _, _, _], rfl, ?_⟩
       refine e_q 14 rfl (wn_none rfl) (op_nilck rfl) ?_
       refine e_q 15 rfl (wn_none rfl) (op_field fld_116_1 rfl) ?_
       refine et_1 (i := 16) (by kernel_rfl) ?_
       refine ei_iN rfl rfl (wn_none rfl) (os_pull4 (os_store (v := .slice _ _ _) sc_42 rfl rfl rfl rfl (Free.zero _) rfl)) ?_; rintro _ _ ⟨rfl, rfl⟩; refine ⟨[_, _, _, _, _], rfl, ?_⟩
       refine e_q 17 rfl (wn_none rfl) (op_nilck rfl) ?_
       refine e_q 18 rfl (wn_none rfl) (op_field fld_116_2 rfl) ?_
       refine et_1 (i := 19) (by kernel_rfl) ?_
       refine ei_iN rfl rfl (wn_none rfl) (os_store (v := .slice _ _ _) sc_42 rfl rfl rfl rfl (Free.zero _) rfl) ?_; rintro _ _ ⟨rfl, rfl⟩; refine ⟨[_, _, _, _, _], rfl, ?_⟩
       refine et_nil (by kernel_rfl) ?_
       refine px_cut (ao31, ac31, ao32, ac32) trivial ?_ (fun _ s => (by (try dsimp only); simp only [← rep_snoc]; exact ((((((((s.del 4).del 3).pull 3).pull 5).pull 5).pull 4).pull 5).pull 5)))
       repeat (first | exact kept_self | exact kept_over | refine kept_upd rfl ?_ | refine kept_overS (by decide) ?_)
      ·
       refine ei_i rfl rfl (wn_none rfl) (os_q (op_ld 2 sc_42 rfl rfl rfl)) rfl ?_; rintro _ _ ⟨rfl, rfl⟩; refine ⟨[_, _, _, _, _], rfl, ?_⟩
       refine et_1 (i := 7) (by kernel_rfl) ?_
       refine ei_i rfl rfl (wn_none rfl) (os_pull3 (os_append (E := encI64) rfl sB_42 zv_3 rfl rfl rfl (fun w s => (rds_row 1 rfl rfl) [] w s) rfl (by simp; omega) (by unfold maxLen; simp; omega))) rfl ?_; rintro _ _ ⟨ao33, ac33, rfl, rfl⟩; refine ⟨[_, _, _, _, _], rfl, ?_⟩
       refine et_1 (i := 13) (by kernel_rfl) ?_
       refine ei_i rfl rfl (wn_none rfl) (os_pull4 (os_append (E := encI64) rfl sB_42 zv_3 rfl rfl rfl (fun w s => (rds_row 3 rfl rfl) [] w s) rfl (by simp; omega) (by unfold maxLen; simp; omega))) rfl ?_; rintro _ _ ⟨ao34, ac34, rfl, rfl⟩; refine ⟨[_, _, _, _, _], rfl, ?_⟩
       refine e_q 14 rfl (wn_none rfl) (op_nilck rfl) ?_
       refine e_q 15 rfl (wn_none rfl) (op_field fld_116_1 rfl) ?_
       refine et_1 (i := 16) (by kernel_rfl) ?_
       refine ei_iN rfl rfl (wn_none rfl) (os_pull4 (os_store (v := .slice _ _ _) sc_42 rfl rfl rfl rfl (Free.zero _) rfl)) ?_; rintro _ _ ⟨rfl, rfl⟩; refine ⟨[_, _, _, _, _], rfl, ?_⟩
       refine e_q 17 rfl (wn_none rfl) (op_nilck rfl) ?_
       refine e_q 18 rfl (wn_none rfl) (op_field fld_116_2 rfl) ?_
       refine et_1 (i := 19) (by kernel_rfl) ?_
       refine ei_iN rfl rfl (wn_none rfl) (os_store (v := .slice _ _ _) sc_42 rfl rfl rfl rfl (Free.zero _) rfl) ?_; rintro _ _ ⟨rfl, rfl⟩; refine ⟨[_, _, _, _, _], rfl, ?_⟩
       refine et_nil (by kernel_rfl) ?_
       refine px_cut (ao33, ac33, ao34, ac34) trivial ?_ (fun _ s => (by (try dsimp only); simp only [← rep_snoc]; exact ((((((((s.del 4).del 3).pull 3).pull 5).pull 5).pull 4).pull 5).pull 5)))
       repeat (first | exact kept_self | exact kept_over | refine kept_upd rfl ?_ | refine kept_overS (by decide) ?_)
     ·
      refine ei_i rfl rfl (wn_none rfl) (os_q (op_ld 1 sc_42 rfl rfl rfl)) rfl ?_; rintro _ _ ⟨rfl, rfl⟩; refine ⟨[_, _, _, _], rfl, ?_⟩
      refine et_1 (i := 6) (by kernel_rfl) ?_
      refine ei_i rfl rfl (wn_none rfl) (os_bslice (E := encI64) [_] (ys := [_]) sB_42 zv_3 rfl rfl rfl rfl (by decide)) rfl ?_; rintro _ _ ⟨ao35, rfl, rfl⟩; refine ⟨[_, _, _, _, _], rfl, ?_⟩
      refine et_1 (i := 7) (by kernel_rfl) ?_
      refine ei_i rfl rfl (wn_none rfl) (os_pull3 (os_append (E := encI64) rfl sB_42 zv_3 rfl rfl rfl (fun w s => (rds_row 1 rfl rfl) [] w s) rfl (by simp; omega) (by unfold maxLen; simp; omega))) rfl ?_; rintro _ _ ⟨ao36, ac36, rfl, rfl⟩; refine ⟨[_, _, _, _, _], rfl, ?_⟩
      refine et_1 (i := 13) (by kernel_rfl) ?_
      refine ei_i rfl rfl (wn_none rfl) (os_pull4 (os_append (E := encI64) rfl sB_42 zv_3 rfl rfl rfl (fun w s => (rds_row 3 rfl rfl) [] w s) rfl (by simp; omega) (by unfold maxLen; simp; omega))) rfl ?_; rintro _ _ ⟨ao37, ac37, rfl, rfl⟩; refine ⟨[_, _, _, _, _], rfl, ?_⟩
      refine e_q 14 rfl (wn_none rfl) (op_nilck rfl) ?_
      refine e_q 15 rfl (wn_none rfl) (op_field fld_116_1 rfl) ?_
      refine et_1 (i := 16) (by kernel_rfl) ?_
      refine ei_iN rfl rfl (wn_none rfl) (os_pull4 (os_store (v := .slice _ _ _) sc_42 rfl rfl rfl rfl (Free.zero _) rfl)) ?_; rintro _ _ ⟨rfl, rfl⟩; refine ⟨[_, _, _, _, _], rfl, ?_⟩
      refine e_q 17 rfl (wn_none rfl) (op_nilck rfl) ?_
      refine e_q 18 rfl (wn_none rfl) (op_field fld_116_2 rfl) ?_
      refine et_1 (i := 19) (by kernel_rfl) ?_
      refine ei_iN rfl rfl (wn_none rfl) (os_store (v := .slice _ _ _) sc_42 rfl rfl rfl rfl (Free.zero _) rfl) ?_; rintro _ _ ⟨rfl, rfl⟩; refine ⟨[_, _, _, _, _], rfl, ?_⟩
      refine et_nil (by kernel_rfl) ?_
      refine px_cut (ao36, ac36, ao37, ac37) trivial ?_ (fun _ s => (by (try dsimp only); simp only [← rep_snoc]; exact ((((((((s.del 4).del 3).pull 3).pull 5).pull 5).pull 4).pull 5).pull 5)))
      repeat (first | exact kept_self | exact kept_over | refine kept_upd rfl ?_ | refine kept_overS (by decide) ?_)
   ·
    refine ei_i rfl rfl (wn_none rfl) (os_bslice (E := encI64) [_] (ys := [_]) sB_42 zv_3 rfl rfl rfl rfl (by decide)) rfl ?_; rintro _ _ ⟨ao38, rfl, rfl⟩; refine ⟨[_, _, _, _], rfl, ?_⟩
    refine et_3 (i1 := 5) (i2 := 11) (i3 := 12) (by kernel_rfl) ?_ ?_ ?_
    ·
     refine ei_i rfl rfl (wn_none rfl) (os_q (op_ld 1 sc_42 rfl rfl rfl)) rfl ?_; rintro _ _ ⟨rfl, rfl⟩; refine ⟨[_, _, _, _], rfl, ?_⟩
     refine et_3 (i1 := 7) (i2 := 11) (i3 := 12) (by kernel_rfl) ?_ ?_ ?_
     ·
      refine ei_i rfl rfl (wn_none rfl) (os_pull2 (os_append (E := encI64) rfl sB_42 zv_3 rfl rfl rfl (fun w s => (rds_row 1 rfl rfl) [] w s) rfl (by simp; omega) (by unfold maxLen; simp; omega))) rfl ?_; rintro _ _ ⟨ao39, ac39, rfl, rfl⟩; refine ⟨[_, _, _, _], rfl, ?_⟩
      refine et_2 (i1 := 11) (i2 := 12) (by kernel_rfl) ?_ ?_
      ·
       refine ei_i rfl rfl (wn_none rfl) (os_q (op_ld 2 sc_42 rfl rfl rfl)) rfl ?_; rintro _ _ ⟨rfl, rfl⟩; refine ⟨[_, _, _, _], rfl, ?_⟩
       refine et_1 (i := 12) (by kernel_rfl) ?_
       refine ei_i rfl rfl (wn_none rfl) (os_bslice (E := encI64) [_] (ys := [_]) sB_42 zv_3 rfl rfl rfl rfl (by decide)) rfl ?_; rintro _ _ ⟨ao40, rfl, rfl⟩; refine ⟨[_, _, _, _, _], rfl, ?_⟩
       refine et_1 (i := 13) (by kernel_rfl) ?_
       refine ei_i rfl rfl (wn_none rfl) (os_pull4 (os_append (E := encI64) rfl sB_42 zv_3 rfl rfl rfl (fun w s => (rds_row 1 rfl rfl) [] w s) rfl (by simp; omega) (by unfold maxLen; simp; omega))) rfl ?_; rintro _ _ ⟨ao41, ac41, rfl, rfl⟩; refine ⟨[_, _, _, _, _], rfl, ?_⟩
       refine e_q 14 rfl (wn_none rfl) (op_nilck rfl) ?_
       refine e_q 15 rfl (wn_none rfl) (op_field fld_116_1 rfl) ?_
       refine et_1 (i := 16) (by kernel_rfl) ?_
       refine ei_iN rfl rfl (wn_none rfl) (os_pull4 (os_store (v := .slice _ _ _) sc_42 rfl rfl rfl rfl (Free.zero _) rfl)) ?_; rintro _ _ ⟨rfl, rfl⟩; refine ⟨[_, _, _, _, _], rfl, ?_⟩
       refine e_q 17 rfl (wn_none rfl) (op_nilck rfl) ?_
       refine e_q 18 rfl (wn_none rfl) (op_field fld_116_2 rfl) ?_
       refine et_1 (i := 19) (by kernel_rfl) ?_
       refine ei_iN rfl rfl (wn_none rfl) (os_store (v := .slice _ _ _) sc_42 rfl rfl rfl rfl (Free.zero _) rfl) ?_; rintro _ _ ⟨rfl, rfl⟩; refine ⟨[_, _, _, _, _], rfl, ?_⟩
       refine et_nil (by kernel_rfl) ?_
       refine px_cut (ao39, ac39, ao41, ac41) trivial ?_ (fun _ s => (by (try dsimp only); simp only [← rep_snoc]; exact ((((((((s.del 4).del 2).pull 3).pull 5).pull 5).pull 4).pull 5).pull 5)))
       repeat (first | exact kept_self | exact kept_over | refine kept_upd rfl ?_ | refine kept_overS (by decide) ?_)
      ·
       refine ei_i rfl rfl (wn_none rfl) (os_bslice (E := encI64) [_] (ys := [_]) sB_42 zv_3 rfl rfl rfl rfl (by decide)) rfl ?_; rintro _ _ ⟨ao42, rfl, rfl⟩; refine ⟨[_, _, _, _, _], rfl, ?_⟩
       refine et_1 (i := 11) (by kernel_rfl) ?_
       refine ei_i rfl rfl (wn_none rfl) (os_q (op_ld 3 sc_42 rfl rfl rfl)) rfl ?_; rintro _ _ ⟨rfl, rfl⟩; refine ⟨[_, _, _, _, _], rfl, ?_⟩
       refine et_1 (i := 13) (by kernel_rfl) ?_
       refine ei_i rfl rfl (wn_none rfl) (os_pull4 (os_append (E := encI64) rfl sB_42 zv_3 rfl rfl rfl (fun w s => (rds_row 1 rfl rfl) [] w s) rfl (by simp; omega) (by unfold maxLen; simp; omega))) rfl ?_; rintro _ _ ⟨ao43, ac43, rfl, rfl⟩; refine ⟨[_, _, _, _, _], rfl, ?_⟩
       refine e_q 14 rfl (wn_none rfl) (op_nilck rfl) ?_
       refine e_q 15 rfl (wn_none rfl) (op_field fld_116_1 rfl) ?_
       refine et_1 (i := 16) (by kernel_rfl) ?_
       refine ei_iN rfl rfl (wn_none rfl) (os_pull4 (os_store (v := .slice _ _ _) sc_42 rfl rfl rfl rfl (Free.zero _) rfl)) ?_; rintro _ _ ⟨rfl, rfl⟩; refine ⟨[_, _, _, _, _], rfl, ?_⟩
       refine e_q 17 rfl (wn_none rfl) (op_nilck rfl) ?_
       refine e_q 18 rfl (wn_none rfl) (op_field fld_116_2 rfl) ?_
       refine et_1 (i := 19) (by kernel_rfl) ?_
       refine ei_iN rfl rfl (wn_none rfl) (os_store (v := .slice _ _ _) sc_42 rfl rfl rfl rfl (Free.zero _) rfl) ?_; rintro _ _ ⟨rfl, rfl⟩; refine ⟨[_, _, _, _, _], rfl, ?_⟩
       refine et_nil (by kernel_rfl) ?_
       refine px_cut (ao39, ac39, ao43, ac43) trivial ?_ (fun _ s => (by (try dsimp only); simp only [← rep_snoc]; exact ((((((((s.del 4).del 2).pull 3).pull 5).pull 5).pull 4).pull 5).pull 5)))
       repeat (first | exact kept_self | exact kept_over | refine kept_upd rfl ?_ | refine kept_overS (by decide) ?_)
     ·
      refine ei_i rfl rfl (wn_none rfl) (os_q (op_ld 1 sc_42 rfl rfl rfl)) rfl ?_; rintro _ _ ⟨rfl, rfl⟩; refine ⟨[_, _, _, _], rfl, ?_⟩
      refine et_2 (i1 := 7) (i2 := 12) (by kernel_rfl) ?_ ?_
      ·
       refine ei_i rfl rfl (wn_none rfl) (os_pull2 (os_append (E := encI64) rfl sB_42 zv_3 rfl rfl rfl (fun w s => (rds_row 1 rfl rfl) [] w s) rfl (by simp; omega) (by unfold maxLen; simp; omega))) rfl ?_; rintro _ _ ⟨ao44, ac44, rfl, rfl⟩; refine ⟨[_, _, _, _], rfl, ?_⟩
       refine et_1 (i := 12) (by kernel_rfl) ?_
       refine ei_i rfl rfl (wn_none rfl) (os_bslice (E := encI64) [_] (ys := [_]) sB_42 zv_3 rfl rfl rfl rfl (by decide)) rfl ?_; rintro _ _ ⟨ao45, rfl, rfl⟩; refine ⟨[_, _, _, _, _], rfl, ?_⟩
       refine et_1 (i := 13) (by kernel_rfl) ?_
       refine ei_i rfl rfl (wn_none rfl) (os_pull4 (os_append (E := encI64) rfl sB_42 zv_3 rfl rfl rfl (fun w s => (rds_row 1 rfl rfl) [] w s) rfl (by simp; omega) (by unfold maxLen; simp; omega))) rfl ?_; rintro _ _ ⟨ao46, ac46, rfl, rfl⟩; refine ⟨[_, _, _, _, _], rfl, ?_⟩
       refine e_q 14 rfl (wn_none rfl) (op_nilck rfl) ?_
       refine e_q 15 rfl (wn_none rfl) (op_field fld_116_1 rfl) ?_
       refine et_1 (i := 16) (by kernel_rfl) ?_
       refine ei_iN rfl rfl (wn_none rfl) (os_pull4 (os_store (v := .slice _ _ _) sc_42 rfl rfl rfl rfl (Free.zero _) rfl)) ?_; rintro _ _ ⟨rfl, rfl⟩; refine ⟨[_, _, _, _, _], rfl, ?_⟩
       refine e_q 17 rfl (wn_none rfl) (op_nilck rfl) ?_
       refine e_q 18 rfl (wn_none rfl) (op_field fld_116_2 rfl) ?_
       refine et_1 (i := 19) (by kernel_rfl) ?_
       refine ei_iN rfl rfl (wn_none rfl) (os_store (v := .slice _ _ _) sc_42 rfl rfl rfl rfl (Free.zero _) rfl) ?_; rintro _ _ ⟨rfl, rfl⟩; refine ⟨[_, _, _, _, _], rfl, ?_⟩
       refine et_nil (by kernel_rfl) ?_
       refine px_cut (ao44, ac44, ao46, ac46) trivial ?_ (fun _ s => (by (try dsimp only); simp only [← rep_snoc]; exact ((((((((s.del 4).del 2).pull 3).pull 5).pull 5).pull 4).pull 5).pull 5)))
       repeat (first | exact kept_self | exact kept_over | refine kept_upd rfl ?_ | refine kept_overS (by decide) ?_)
      ·
       refine ei_i rfl rfl (wn_none rfl) (os_bslice (E := encI64) [_] (ys := [_]) sB_42 zv_3 rfl rfl rfl rfl (by decide)) rfl ?_; rintro _ _ ⟨ao47, rfl, rfl⟩; refine ⟨[_, _, _, _, _], rfl, ?_⟩
       refine et_1 (i := 7) (by kernel_rfl) ?_
       refine ei_i rfl rfl (wn_none rfl) (os_pull3 (os_append (E := encI64) rfl sB_42 zv_3 rfl rfl rfl (fun w s => (rds_row 2 rfl rfl) [] w s) rfl (by simp; omega) (by unfold maxLen; simp; omega))) rfl ?_; rintro _ _ ⟨ao48, ac48, rfl, rfl⟩; refine ⟨[_, _, _, _, _], rfl, ?_⟩
       refine et_1 (i := 13) (by kernel_rfl) ?_
       refine ei_i rfl rfl (wn_none rfl) (os_pull4 (os_append (E := encI64) rfl sB_42 zv_3 rfl rfl rfl (fun w s => (rds_row 2 rfl rfl) [] w s) rfl (by simp; omega) (by unfold maxLen; simp; omega))) rfl ?_; rintro _ _ ⟨ao49, ac49, rfl, rfl⟩; refine ⟨[_, _, _, _, _], rfl, ?_⟩
       refine e_q 14 rfl (wn_none rfl) (op_nilck rfl) ?_
       refine e_q 15 rfl (wn_none rfl) (op_field fld_116_1 rfl) ?_
       refine et_1 (i := 16) (by kernel_rfl) ?_
       refine ei_iN rfl rfl (wn_none rfl) (os_pull4 (os_store (v := .slice _ _ _) sc_42 rfl rfl rfl rfl (Free.zero _) rfl)) ?_; rintro _ _ ⟨rfl, rfl⟩; refine ⟨[_, _, _, _, _], rfl, ?_⟩
       refine e_q 17 rfl (wn_none rfl) (op_nilck rfl) ?_
       refine e_q 18 rfl (wn_none rfl) (op_field fld_116_2 rfl) ?_
       refine et_1 (i := 19) (by kernel_rfl) ?_
       refine ei_iN rfl rfl (wn_none rfl) (os_store (v := .slice _ _ _) sc_42 rfl rfl rfl rfl (Free.zero _) rfl) ?_; rintro _ _ ⟨rfl, rfl⟩; refine ⟨[_, _, _, _, _], rfl, ?_⟩
       refine et_nil (by kernel_rfl) ?_
       refine px_cut (ao48, ac48, ao49, ac49) trivial ?_ (fun _ s => (by (try dsimp only); simp only [← rep_snoc]; exact ((((((((s.del 4).del 3).pull 3).pull 5).pull 5).pull 4).pull 5).pull 5)))
       repeat (first | exact kept_self | exact kept_over | refine kept_upd rfl ?_ | refine kept_overS (by decide) ?_)
     ·
      refine ei_i rfl rfl (wn_none rfl) (os_bslice (E := encI64) [_] (ys := [_]) sB_42 zv_3 rfl rfl rfl rfl (by decide)) rfl ?_; rintro _ _ ⟨ao50, rfl, rfl⟩; refine ⟨[_, _, _, _, _], rfl, ?_⟩
      refine et_2 (i1 := 7) (i2 := 11) (by kernel_rfl) ?_ ?_
      ·
       refine ei_i rfl rfl (wn_none rfl) (os_pull3 (os_append (E := encI64) rfl sB_42 zv_3 rfl rfl rfl (fun w s => (rds_row 2 rfl rfl) [] w s) rfl (by simp; omega) (by unfold maxLen; simp; omega))) rfl ?_; rintro _ _ ⟨ao51, ac51, rfl, rfl⟩; refine ⟨[_, _, _, _, _], rfl, ?_⟩
       refine et_1 (i := 11) (by kernel_rfl) ?_
       refine ei_i rfl rfl (wn_none rfl) (os_q (op_ld 3 sc_42 rfl rfl rfl)) rfl ?_; rintro _ _ ⟨rfl, rfl⟩; refine ⟨[_, _, _, _, _], rfl, ?_⟩
       refine et_1 (i := 13) (by kernel_rfl) ?_
       refine ei_i rfl rfl (wn_none rfl) (os_pull4 (os_append (E := encI64) rfl sB_42 zv_3 rfl rfl rfl (fun w s => (rds_row 2 rfl rfl) [] w s) rfl (by simp; omega) (by unfold maxLen; simp; omega))) rfl ?_; rintro _ _ ⟨ao52, ac52, rfl, rfl⟩; refine ⟨[_, _, _, _, _], rfl, ?_⟩
       refine e_q 14 rfl (wn_none rfl) (op_nilck rfl) ?_
       refine e_q 15 rfl (wn_none rfl) (op_field fld_116_1 rfl) ?_
       refine et_1 (i := 16) (by kernel_rfl) ?_
       refine ei_iN rfl rfl (wn_none rfl) (os_pull4 (os_store (v := .slice _ _ _) sc_42 rfl rfl rfl rfl (Free.zero _) rfl)) ?_; rintro _ _ ⟨rfl, rfl⟩; refine ⟨[_, _, _, _, _], rfl, ?_⟩
       refine e_q 17 rfl (wn_none rfl) (op_nilck rfl) ?_
       refine e_q 18 rfl (wn_none rfl) (op_field fld_116_2 rfl) ?_
       refine et_1 (i := 19) (by kernel_rfl) ?_
       refine ei_iN rfl rfl (wn_none rfl) (os_store (v := .slice _ _ _) sc_42 rfl rfl rfl rfl (Free.zero _) rfl) ?_; rintro _ _ ⟨rfl, rfl⟩; refine ⟨[_, _, _, _, _], rfl, ?_⟩
       refine et_nil (by kernel_rfl) ?_
       refine px_cut (ao51, ac51, ao52, ac52) trivial ?_ (fun _ s => (by (try dsimp only); simp only [← rep_snoc]; exact ((((((((s.del 4).del 3).pull 3).pull 5).pull 5).pull 4).pull 5).pull 5)))
       repeat (first | exact kept_self | exact kept_over | refine kept_upd rfl ?_ | refine kept_overS (by decide) ?_)
      ·
       refine ei_i rfl rfl (wn_none rfl) (os_q (op_ld 2 sc_42 rfl rfl rfl)) rfl ?_; rintro _ _ ⟨rfl, rfl⟩; refine ⟨[_, _, _, _, _], rfl, ?_⟩
       refine et_1 (i := 7) (by kernel_rfl) ?_
       refine ei_i rfl rfl (wn_none rfl) (os_pull3 (os_append (E := encI64) rfl sB_42 zv_3 rfl rfl rfl (fun w s => (rds_row 2 rfl rfl) [] w s) rfl (by simp; omega) (by unfold maxLen; simp; omega))) rfl ?_; rintro _ _ ⟨ao53, ac53, rfl, rfl⟩; refine ⟨[_, _, _, _, _], rfl, ?_⟩
       refine et_1 (i := 13) (by kernel_rfl) ?_
       refine ei_i rfl rfl (wn_none rfl) (os_pull4 (os_append (E := encI64) rfl sB_42 zv_3 rfl rfl rfl (fun w s => (rds_row 2 rfl rfl) [] w s) rfl (by simp; omega) (by unfold maxLen; simp; omega))) rfl ?_; rintro _ _ ⟨ao54, ac54, rfl, rfl⟩; refine ⟨[_, _, _, _, _], rfl, ?_⟩
       refine e_q 14 rfl (wn_none rfl) (op_nilck rfl) ?_
       refine e_q 15 rfl (wn_none rfl) (op_field fld_116_1 rfl) ?_
       refine et_1 (i := 16) (by kernel_rfl) ?_
       refine ei_iN rfl rfl (wn_none rfl) (os_pull4 (os_store (v := .slice _ _ _) sc_42 rfl rfl rfl rfl (Free.zero _) rfl)) ?_; rintro _ _ ⟨rfl, rfl⟩; refine ⟨[_, _, _, _, _], rfl, ?_⟩
       refine e_q 17 rfl (wn_none rfl) (op_nilck rfl) ?_
       refine e_q 18 rfl (wn_none rfl) (op_field fld_116_2 rfl) ?_
       refine et_1 (i := 19) (by kernel_rfl) ?_
       refine ei_iN rfl rfl (wn_none rfl) (os_store (v := .slice _ _ _) sc_42 rfl rfl rfl rfl (Free.zero _) rfl) ?_; rintro _ _ ⟨rfl, rfl⟩; refine ⟨[_, _, _, _, _], rfl, ?_⟩
       refine et_nil (by kernel_rfl) ?_
       refine px_cut (ao53, ac53, ao54, ac54) trivial ?_ (fun _ s => (by (try dsimp only); simp only [← rep_snoc]; exact ((((((((s.del 4).del 3).pull 3).pull 5).pull 5).pull 4).pull 5).pull 5)))
       repeat (first | exact kept_self | exact kept_over | refine kept_upd rfl ?_ | refine kept_overS (by decide) ?_)
    ·
     refine ei_i rfl rfl (wn_none rfl) (os_q (op_ld 1 sc_42 rfl rfl rfl)) rfl ?_; rintro _ _ ⟨rfl, rfl⟩; refine ⟨[_, _, _, _], rfl, ?_⟩
     refine et_2 (i1 := 5) (i2 := 12) (by kernel_rfl) ?_ ?_
     ·
      refine ei_i rfl rfl (wn_none rfl) (os_q (op_ld 1 sc_42 rfl rfl rfl)) rfl ?_; rintro _ _ ⟨rfl, rfl⟩; refine ⟨[_, _, _, _], rfl, ?_⟩
      refine et_2 (i1 := 7) (i2 := 12) (by kernel_rfl) ?_ ?_
      ·
       refine ei_i rfl rfl (wn_none rfl) (os_pull2 (os_append (E := encI64) rfl sB_42 zv_3 rfl rfl rfl (fun w s => (rds_row 1 rfl rfl) [] w s) rfl (by simp; omega) (by unfold maxLen; simp; omega))) rfl ?_; rintro _ _ ⟨ao55, ac55, rfl, rfl⟩; refine ⟨[_, _, _, _], rfl, ?_⟩
       refine et_1 (i := 12) (by kernel_rfl) ?_
       refine ei_i rfl rfl (wn_none rfl) (os_bslice (E := encI64) [_] (ys := [_]) sB_42 zv_3 rfl rfl rfl rfl (by decide)) rfl ?_; rintro _ _ ⟨ao56, rfl, rfl⟩; refine ⟨[_, _, _, _, _], rfl, ?_⟩
       refine et_1 (i := 13) (by kernel_rfl) ?_
       refine ei_i rfl rfl (wn_none rfl) (os_pull4 (os_append (E := encI64) rfl sB_42 zv_3 rfl rfl rfl (fun w s => (rds_row 1 rfl rfl) [] w s) rfl (by simp; omega) (by unfold maxLen; simp; omega))) rfl ?_; rintro _ _ ⟨ao57, ac57, rfl, rfl⟩; refine ⟨[_, _, _, _, _], rfl, ?_⟩
       refine e_q 14 rfl (wn_none rfl) (op_nilck rfl) ?_
       refine e_q 15 rfl (wn_none rfl) (op_field fld_116_1 rfl) ?_
       refine et_1 (i := 16) (by kernel_rfl) ?_
       refine ei_iN rfl rfl (wn_none rfl) (os_pull4 (os_store (v := .slice _ _ _) sc_42 rfl rfl rfl rfl (Free.zero _) rfl)) ?_; rintro _ _ ⟨rfl, rfl⟩; refine ⟨[_, _, _, _, _], rfl, ?_⟩
       refine e_q 17 rfl (wn_none rfl) (op_nilck rfl) ?_
       refine e_q 18 rfl (wn_none rfl) (op_field fld_116_2 rfl) ?_
       refine et_1 (i := 19) (by kernel_rfl) ?_
       refine ei_iN rfl rfl (wn_none rfl) (os_store (v := .slice _ _ _) sc_42 rfl rfl rfl rfl (Free.zero _) rfl) ?_; rintro _ _ ⟨rfl, rfl⟩; refine ⟨[_, _, _, _, _], rfl, ?_⟩
       refine et_nil (by kernel_rfl) ?_
       refine px_cut (ao55, ac55, ao57, ac57) trivial ?_ (fun _ s => (by (try dsimp only); simp only [← rep_snoc]; exact ((((((((s.del 4).del 2).pull 3).pull 5).pull 5).pull 4).pull 5).pull 5)))
       repeat (first | exact kept_self | exact kept_over | refine kept_upd rfl ?_ | refine kept_overS (by decide) ?_)
      ·
       refine ei_i rfl rfl (wn_none rfl) (os_bslice (E := encI64) [_] (ys := [_]) sB_42 zv_3 rfl rfl rfl rfl (by decide)) rfl ?_; rintro _ _ ⟨ao58, rfl, rfl⟩; refine ⟨[_, _, _, _, _], rfl, ?_⟩
       refine et_1 (i := 7) (by kernel_rfl) ?_
       refine ei_i rfl rfl (wn_none rfl) (os_pull3 (os_append (E := encI64) rfl sB_42 zv_3 rfl rfl rfl (fun w s => (rds_row 2 rfl rfl) [] w s) rfl (by simp; omega) (by unfold maxLen; simp; omega))) rfl ?_; rintro _ _ ⟨ao59, ac59, rfl, rfl⟩; refine ⟨[_, _, _, _, _], rfl, ?_⟩
       refine et_1 (i := 13) (by kernel_rfl) ?_
       refine ei_i rfl rfl (wn_none rfl) (os_pull4 (os_append (E := encI64) rfl sB_42 zv_3 rfl rfl rfl (fun w s => (rds_row 2 rfl rfl) [] w s) rfl (by simp; omega) (by unfold maxLen; simp; omega))) rfl ?_; rintro _ _ ⟨ao60, ac60, rfl, rfl⟩; refine ⟨[_, _, _, _, _], rfl, ?_⟩
       refine e_q 14 rfl (wn_none rfl) (op_nilck rfl) ?_
       refine e_q 15 rfl (wn_none rfl) (op_field fld_116_1 rfl) ?_
       refine et_1 (i := 16) (by kernel_rfl) ?_
       refine ei_iN rfl rfl (wn_none rfl) (os_pull4 (os_store (v := .slice _ _ _) sc_42 rfl rfl rfl rfl (Free.zero _) rfl)) ?_; rintro _ _ ⟨rfl, rfl⟩; refine ⟨[_, _, _, _, _], rfl, ?_⟩
       refine e_q 17 rfl (wn_none rfl) (op_nilck rfl) ?_
       refine e_q 18 rfl (wn_none rfl) (op_field fld_116_2 rfl) ?_
       refine et_1 (i := 19) (by kernel_rfl) ?_
       refine ei_iN rfl rfl (wn_none rfl) (os_store (v := .slice _ _ _) sc_42 rfl rfl rfl rfl (Free.zero _) rfl) ?_; rintro _ _ ⟨rfl, rfl⟩; refine ⟨[_, _, _, _, _], rfl, ?_⟩
       refine et_nil (by kernel_rfl) ?_
       refine px_cut (ao59, ac59, ao60, ac60) trivial ?_ (fun _ s => (by (try dsimp only); simp only [← rep_snoc]; exact ((((((((s.del 4).del 3).pull 3).pull 5).pull 5).pull 4).pull 5).pull 5)))
       repeat (first | exact kept_self | exact kept_over | refine kept_upd rfl ?_ | refine kept_overS (by decide) ?_)
     ·
      refine ei_i rfl rfl (wn_none rfl) (os_bslice (E := encI64) [_] (ys := [_]) sB_42 zv_3 rfl rfl rfl rfl (by decide)) rfl ?_; rintro _ _ ⟨ao61, rfl, rfl⟩; refine ⟨[_, _, _, _, _], rfl, ?_⟩
      refine et_1 (i := 5) (by kernel_rfl) ?_
      refine ei_i rfl rfl (wn_none rfl) (os_q (op_ld 2 sc_42 rfl rfl rfl)) rfl ?_; rintro _ _ ⟨rfl, rfl⟩; refine ⟨[_, _, _, _, _], rfl, ?_⟩
      refine et_1 (i := 7) (by kernel_rfl) ?_
      refine ei_i rfl rfl (wn_none rfl) (os_pull3 (os_append (E := encI64) rfl sB_42 zv_3 rfl rfl rfl (fun w s => (rds_row 2 rfl rfl) [] w s) rfl (by simp; omega) (by unfold maxLen; simp; omega))) rfl ?_; rintro _ _ ⟨ao62, ac62, rfl, rfl⟩; refine ⟨[_, _, _, _, _], rfl, ?_⟩
      refine et_1 (i := 13) (by kernel_rfl) ?_
      refine ei_i rfl rfl (wn_none rfl) (os_pull4 (os_append (E := encI64) rfl sB_42 zv_3 rfl rfl rfl (fun w s => (rds_row 2 rfl rfl) [] w s) rfl (by simp; omega) (by unfold maxLen; simp; omega))) rfl ?_; rintro _ _ ⟨ao63, ac63, rfl, rfl⟩; refine ⟨[_, _, _, _, _], rfl, ?_⟩
      refine e_q 14 rfl (wn_none rfl) (op_nilck rfl) ?_
      refine e_q 15 rfl (wn_none rfl) (op_field fld_116_1 rfl) ?_
      refine et_1 (i := 16) (by kernel_rfl) ?_
      refine ei_iN rfl rfl (wn_none rfl) (os_pull4 (os_store (v := .slice _ _ _) sc_42 rfl rfl rfl rfl (Free.zero _) rfl)) ?_; rintro _ _ ⟨rfl, rfl⟩; refine ⟨[_, _, _, _, _], rfl, ?_⟩
      refine e_q 17 rfl (wn_none rfl) (op_nilck rfl) ?_
      refine e_q 18 rfl (wn_none rfl) (op_field fld_116_2 rfl) ?_
      refine et_1 (i := 19) (by kernel_rfl) ?_
      refine ei_iN rfl rfl (wn_none rfl) (os_store (v := .slice _ _ _) sc_42 rfl rfl rfl rfl (Free.zero _) rfl) ?_; rintro _ _ ⟨rfl, rfl⟩; refine ⟨[_, _, _, _, _], rfl, ?_⟩
      refine et_nil (by kernel_rfl) ?_
      refine px_cut (ao62, ac62, ao63, ac63) trivial ?_ (fun _ s => (by (try dsimp only); simp only [← rep_snoc]; exact ((((((((s.del 4).del 3).pull 3).pull 5).pull 5).pull 4).pull 5).pull 5)))
      repeat (first | exact kept_self | exact kept_over | refine kept_upd rfl ?_ | refine kept_overS (by decide) ?_)
    ·
     refine ei_i rfl rfl (wn_none rfl) (os_bslice (E := encI64) [_] (ys := [_]) sB_42 zv_3 rfl rfl rfl rfl (by decide)) rfl ?_; rintro _ _ ⟨ao64, rfl, rfl⟩; refine ⟨[_, _, _, _, _], rfl, ?_⟩
     refine et_2 (i1 := 5) (i2 := 11) (by kernel_rfl) ?_ ?_
     ·
      refine ei_i rfl rfl (wn_none rfl) (os_q (op_ld 2 sc_42 rfl rfl rfl)) rfl ?_; rintro _ _ ⟨rfl, rfl⟩; refine ⟨[_, _, _, _, _], rfl, ?_⟩
      refine et_2 (i1 := 7) (i2 := 11) (by kernel_rfl) ?_ ?_
      ·
       refine ei_i rfl rfl (wn_none rfl) (os_pull3 (os_append (E := encI64) rfl sB_42 zv_3 rfl rfl rfl (fun w s => (rds_row 2 rfl rfl) [] w s) rfl (by simp; omega) (by unfold maxLen; simp; omega))) rfl ?_; rintro _ _ ⟨ao65, ac65, rfl, rfl⟩; refine ⟨[_, _, _, _, _], rfl, ?_⟩
       refine et_1 (i := 11) (by kernel_rfl) ?_
       refine ei_i rfl rfl (wn_none rfl) (os_q (op_ld 3 sc_42 rfl rfl rfl)) rfl ?_; rintro _ _ ⟨rfl, rfl⟩; refine ⟨[_, _, _, _, _], rfl, ?_⟩
       refine et_1 (i := 13) (by kernel_rfl) ?_
       refine ei_i rfl rfl (wn_none rfl) (os_pull4 (os_append (E := encI64) rfl sB_42 zv_3 rfl rfl rfl (fun w s => (rds_row 2 rfl rfl) [] w s) rfl (by simp; omega) (by unfold maxLen; simp; omega))) rfl ?_; rintro _ _ ⟨ao66, ac66, rfl, rfl⟩; refine ⟨[_, _, _, _, _], rfl, ?_⟩
       refine e_q 14 rfl (wn_none rfl) (op_nilck rfl) ?_
       refine e_q 15 rfl (wn_none rfl) (op_field fld_116_1 rfl) ?_
       refine et_1 (i := 16) (by kernel_rfl) ?_
       refine ei_iN rfl rfl (wn_none rfl) (os_pull4 (os_store (v := .slice _ _ _) sc_42 rfl rfl rfl rfl (Free.zero _) rfl)) ?_; rintro _ _ ⟨rfl, rfl⟩; refine ⟨[_, _, _, _, _], rfl, ?_⟩
       refine e_q 17 rfl (wn_none rfl) (op_nilck rfl) ?_
       refine e_q 18 rfl (wn_none rfl) (op_field fld_116_2 rfl) ?_
       refine et_1 (i := 19) (by kernel_rfl) ?_
       refine ei_iN rfl rfl (wn_none rfl) (os_store (v := .slice _ _ _) sc_42 rfl rfl rfl rfl (Free.zero _) rfl) ?_; rintro _ _ ⟨rfl, rfl⟩; refine ⟨[_, _, _, _, _], rfl, ?_⟩
       refine et_nil (by kernel_rfl) ?_
       refine px_cut (ao65, ac65, ao66, ac66) trivial ?_ (fun _ s => (by (try dsimp only); simp only [← rep_snoc]; exact ((((((((s.del 4).del 3).pull 3).pull 5).pull 5).pull 4).pull 5).pull 5)))
       repeat (first | exact kept_self | exact kept_over | refine kept_upd rfl ?_ | refine kept_overS (by decide) ?_)
      ·
       refine ei_i rfl rfl (wn_none rfl) (os_q (op_ld 2 sc_42 rfl rfl rfl)) rfl ?_; rintro _ _ ⟨rfl, rfl⟩; refine ⟨[_, _, _, _, _], rfl, ?_⟩
       refine et_1 (i := 7) (by kernel_rfl) ?_
       refine ei_i rfl rfl (wn_none rfl) (os_pull3 (os_append (E := encI64) rfl sB_42 zv_3 rfl rfl rfl (fun w s => (rds_row 2 rfl rfl) [] w s) rfl (by simp; omega) (by unfold maxLen; simp; omega))) rfl ?_; rintro _ _ ⟨ao67, ac67, rfl, rfl⟩; refine ⟨[_, _, _, _, _], rfl, ?_⟩
       refine et_1 (i := 13) (by kernel_rfl) ?_
       refine ei_i rfl rfl (wn_none rfl) (os_pull4 (os_append (E := encI64) rfl sB_42 zv_3 rfl rfl rfl (fun w s => (rds_row 2 rfl rfl) [] w s) rfl (by simp; omega) (by unfold maxLen; simp; omega))) rfl ?_; rintro _ _ ⟨ao68, ac68, rfl, rfl⟩; refine ⟨[_, _, _, _, _], rfl, ?_⟩
       refine e_q 14 rfl (wn_none rfl) (op_nilck rfl) ?_
       refine e_q 15 rfl (wn_none rfl) (op_field fld_116_1 rfl) ?_
       refine et_1 (i := 16) (by kernel_rfl) ?_
       refine ei_iN rfl rfl (wn_none rfl) (os_pull4 (os_store (v := .slice _ _ _) sc_42 rfl rfl rfl rfl (Free.zero _) rfl)) ?_; rintro _ _ ⟨rfl, rfl⟩; refine ⟨[_, _, _, _, _], rfl, ?_⟩
       refine e_q 17 rfl (wn_none rfl) (op_nilck rfl) ?_
       refine e_q 18 rfl (wn_none rfl) (op_field fld_116_2 rfl) ?_
       refine et_1 (i := 19) (by kernel_rfl) ?_
       refine ei_iN rfl rfl (wn_none rfl) (os_store (v := .slice _ _ _) sc_42 rfl rfl rfl rfl (Free.zero _) rfl) ?_; rintro _ _ ⟨rfl, rfl⟩; refine ⟨[_, _, _, _, _], rfl, ?_⟩
       refine et_nil (by kernel_rfl) ?_
       refine px_cut (ao67, ac67, ao68, ac68) trivial ?_ (fun _ s => (by (try dsimp only); simp only [← rep_snoc]; exact ((((((((s.del 4).del 3).pull 3).pull 5).pull 5).pull 4).pull 5).pull 5)))
       repeat (first | exact kept_self | exact kept_over | refine kept_upd rfl ?_ | refine kept_overS (by decide) ?_)
     ·
      refine ei_i rfl rfl (wn_none rfl) (os_q (op_ld 2 sc_42 rfl rfl rfl)) rfl ?_; rintro _ _ ⟨rfl, rfl⟩; refine ⟨[_, _, _, _, _], rfl, ?_⟩
      refine et_1 (i := 5) (by kernel_rfl) ?_
      refine ei_i rfl rfl (wn_none rfl) (os_q (op_ld 2 sc_42 rfl rfl rfl)) rfl ?_; rintro _ _ ⟨rfl, rfl⟩; refine ⟨[_, _, _, _, _], rfl, ?_⟩
      refine et_1 (i := 7) (by kernel_rfl) ?_
      refine ei_i rfl rfl (wn_none rfl) (os_pull3 (os_append (E := encI64) rfl sB_42 zv_3 rfl rfl rfl (fun w s => (rds_row 2 rfl rfl) [] w s) rfl (by simp; omega) (by unfold maxLen; simp; omega))) rfl ?_; rintro _ _ ⟨ao69, ac69, rfl, rfl⟩; refine ⟨[_, _, _, _, _], rfl, ?_⟩
      refine et_1 (i := 13) (by kernel_rfl) ?_
      refine ei_i rfl rfl (wn_none rfl) (os_pull4 (os_append (E := encI64) rfl sB_42 zv_3 rfl rfl rfl (fun w s => (rds_row 2 rfl rfl) [] w s) rfl (by simp; omega) (by unfold maxLen; simp; omega))) rfl ?_; rintro _ _ ⟨ao70, ac70, rfl, rfl⟩; refine ⟨[_, _, _, _, _], rfl, ?_⟩
      refine e_q 14 rfl (wn_none rfl) (op_nilck rfl) ?_
      refine e_q 15 rfl (wn_none rfl) (op_field fld_116_1 rfl) ?_
      refine et_1 (i := 16) (by kernel_rfl) ?_
      refine ei_iN rfl rfl (wn_none rfl) (os_pull4 (os_store (v := .slice _ _ _) sc_42 rfl rfl rfl rfl (Free.zero _) rfl)) ?_; rintro _ _ ⟨rfl, rfl⟩; refine ⟨[_, _, _, _, _], rfl, ?_⟩
      refine e_q 17 rfl (wn_none rfl) (op_nilck rfl) ?_
      refine e_q 18 rfl (wn_none rfl) (op_field fld_116_2 rfl) ?_
      refine et_1 (i := 19) (by kernel_rfl) ?_
      refine ei_iN rfl rfl (wn_none rfl) (os_store (v := .slice _ _ _) sc_42 rfl rfl rfl rfl (Free.zero _) rfl) ?_; rintro _ _ ⟨rfl, rfl⟩; refine ⟨[_, _, _, _, _], rfl, ?_⟩
      refine et_nil (by kernel_rfl) ?_
      refine px_cut (ao69, ac69, ao70, ac70) trivial ?_ (fun _ s => (by (try dsimp only); simp only [← rep_snoc]; exact ((((((((s.del 4).del 3).pull 3).pull 5).pull 5).pull 4).pull 5).pull 5)))
      repeat (first | exact kept_self | exact kept_over | refine kept_upd rfl ?_ | refine kept_overS (by decide) ?_)
   ·
    refine ei_i rfl rfl (wn_none rfl) (os_q (op_ld 0 sc_42 rfl rfl rfl)) rfl ?_; rintro _ _ ⟨rfl, rfl⟩; refine ⟨[_, _, _], rfl, ?_⟩
    refine et_3 (i1 := 5) (i2 := 6) (i3 := 12) (by kernel_rfl) ?_ ?_ ?_
    ·
     refine ei_i rfl rfl (wn_none rfl) (os_q (op_ld 0 sc_42 rfl rfl rfl)) rfl ?_; rintro _ _ ⟨rfl, rfl⟩; refine ⟨[_, _, _], rfl, ?_⟩
     refine et_2 (i1 := 6) (i2 := 12) (by kernel_rfl) ?_ ?_
     ·
      refine ei_i rfl rfl (wn_none rfl) (os_bslice (E := encI64) [_] (ys := [_]) sB_42 zv_3 rfl rfl rfl rfl (by decide)) rfl ?_; rintro _ _ ⟨ao71, rfl, rfl⟩; refine ⟨[_, _, _, _], rfl, ?_⟩
      refine et_2 (i1 := 7) (i2 := 12) (by kernel_rfl) ?_ ?_
      ·
       refine ei_i rfl rfl (wn_none rfl) (os_pull2 (os_append (E := encI64) rfl sB_42 zv_3 rfl rfl rfl (fun w s => (rds_row 1 rfl rfl) [] w s) rfl (by simp; omega) (by unfold maxLen; simp; omega))) rfl ?_; rintro _ _ ⟨ao72, ac72, rfl, rfl⟩; refine ⟨[_, _, _, _], rfl, ?_⟩
       refine et_1 (i := 12) (by kernel_rfl) ?_
       refine ei_i rfl rfl (wn_none rfl) (os_bslice (E := encI64) [_] (ys := [_]) sB_42 zv_3 rfl rfl rfl rfl (by decide)) rfl ?_; rintro _ _ ⟨ao73, rfl, rfl⟩; refine ⟨[_, _, _, _, _], rfl, ?_⟩
       refine et_1 (i := 13) (by kernel_rfl) ?_
       refine ei_i rfl rfl (wn_none rfl) (os_pull4 (os_append (E := encI64) rfl sB_42 zv_3 rfl rfl rfl (fun w s => (rds_row 1 rfl rfl) [] w s) rfl (by simp; omega) (by unfold maxLen; simp; omega))) rfl ?_; rintro _ _ ⟨ao74, ac74, rfl, rfl⟩; refine ⟨[_, _, _, _, _], rfl, ?_⟩
       refine e_q 14 rfl (wn_none rfl) (op_nilck rfl) ?_
       refine e_q 15 rfl (wn_none rfl) (op_field fld_116_1 rfl) ?_
       refine et_1 (i := 16) (by kernel_rfl) ?_
       refine ei_iN rfl rfl (wn_none rfl) (os_pull4 (os_store (v := .slice _ _ _) sc_42 rfl rfl rfl rfl (Free.zero _) rfl)) ?_; rintro _ _ ⟨rfl, rfl⟩; refine ⟨[_, _, _, _, _], rfl, ?_⟩
       refine e_q 17 rfl (wn_none rfl) (op_nilck rfl) ?_
       refine e_q 18 rfl (wn_none rfl) (op_field fld_116_2 rfl) ?_
       refine et_1 (i := 19) (by kernel_rfl) ?_
       refine ei_iN rfl rfl (wn_none rfl) (os_store (v := .slice _ _ _) sc_42 rfl rfl rfl rfl (Free.zero _) rfl) ?_; rintro _ _ ⟨rfl, rfl⟩; refine ⟨[_, _, _, _, _], rfl, ?_⟩
       refine et_nil (by kernel_rfl) ?_
       refine px_cut (ao72, ac72, ao74, ac74) trivial ?_ (fun _ s => (by (try dsimp only); simp only [← rep_snoc]; exact ((((((((s.del 4).del 2).pull 3).pull 5).pull 5).pull 4).pull 5).pull 5)))
       repeat (first | exact kept_self | exact kept_over | refine kept_upd rfl ?_ | refine kept_overS (by decide) ?_)
      ·
       refine ei_i rfl rfl (wn_none rfl) (os_bslice (E := encI64) [_] (ys := [_]) sB_42 zv_3 rfl rfl rfl rfl (by decide)) rfl ?_; rintro _ _ ⟨ao75, rfl, rfl⟩; refine ⟨[_, _, _, _, _], rfl, ?_⟩
       refine et_1 (i := 7) (by kernel_rfl) ?_
       refine ei_i rfl rfl (wn_none rfl) (os_pull3 (os_append (E := encI64) rfl sB_42 zv_3 rfl rfl rfl (fun w s => (rds_row 2 rfl rfl) [] w s) rfl (by simp; omega) (by unfold maxLen; simp; omega))) rfl ?_; rintro _ _ ⟨ao76, ac76, rfl, rfl⟩; refine ⟨[_, _, _, _, _], rfl, ?_⟩
       refine et_1 (i := 13) (by kernel_rfl) ?_
       refine ei_i rfl rfl (wn_none rfl) (os_pull4 (os_append (E := encI64) rfl sB_42 zv_3 rfl rfl rfl (fun w s => (rds_row 2 rfl rfl) [] w s) rfl (by simp; omega) (by unfold maxLen; simp; omega))) rfl ?_; rintro _ _ ⟨ao77, ac77, rfl, rfl⟩; refine ⟨[_, _, _, _, _], rfl, ?_⟩
       refine e_q 14 rfl (wn_none rfl) (op_nilck rfl) ?_
       refine e_q 15 rfl (wn_none rfl) (op_field fld_116_1 rfl) ?_
       refine et_1 (i := 16) (by kernel_rfl) ?_
       refine ei_iN rfl rfl (wn_none rfl) (os_pull4 (os_store (v := .slice _ _ _) sc_42 rfl rfl rfl rfl (Free.zero _) rfl)) ?_; rintro _ _ ⟨rfl, rfl⟩; refine ⟨[_, _, _, _, _], rfl, ?_⟩
       refine e_q 17 rfl (wn_none rfl) (op_nilck rfl) ?_
       refine e_q 18 rfl (wn_none rfl) (op_field fld_116_2 rfl) ?_
       refine et_1 (i := 19) (by kernel_rfl) ?_
       refine ei_iN rfl rfl (wn_none rfl) (os_store (v := .slice _ _ _) sc_42 rfl rfl rfl rfl (Free.zero _) rfl) ?_; rintro _ _ ⟨rfl, rfl⟩; refine ⟨[_, _, _, _, _], rfl, ?_⟩
       refine et_nil (by kernel_rfl) ?_
       refine px_cut (ao76, ac76, ao77, ac77) trivial ?_ (fun _ s => (by (try dsimp only); simp only [← rep_snoc]; exact ((((((((s.del 4).del 3).pull 3).pull 5).pull 5).pull 4).pull 5).pull 5)))
       repeat (first | exact kept_self | exact kept_over | refine kept_upd rfl ?_ | refine kept_overS (by decide) ?_)
     ·
      refine ei_i rfl rfl (wn_none rfl) (os_bslice (E := encI64) [_] (ys := [_]) sB_42 zv_3 rfl rfl rfl rfl (by decide)) rfl ?_; rintro _ _ ⟨ao78, rfl, rfl⟩; refine ⟨[_, _, _, _], rfl, ?_⟩
      refine et_1 (i := 6) (by kernel_rfl) ?_
      refine ei_i rfl rfl (wn_none rfl) (os_bslice (E := encI64) [_] (ys := [_]) sB_42 zv_3 rfl rfl rfl rfl (by decide)) rfl ?_; rintro _ _ ⟨ao79, rfl, rfl⟩; refine ⟨[_, _, _, _, _], rfl, ?_⟩
      refine et_1 (i := 7) (by kernel_rfl) ?_
      refine ei_i rfl rfl (wn_none rfl) (os_pull3 (os_append (E := encI64) rfl sB_42 zv_3 rfl rfl rfl (fun w s => (rds_row 1 rfl rfl) [] w s) rfl (by simp; omega) (by unfold maxLen; simp; omega))) rfl ?_; rintro _ _ ⟨ao80, ac80, rfl, rfl⟩; refine ⟨[_, _, _, _, _], rfl, ?_⟩
      refine et_1 (i := 13) (by kernel_rfl) ?_
      refine ei_i rfl rfl (wn_none rfl) (os_pull4 (os_append (E := encI64) rfl sB_42 zv_3 rfl rfl rfl (fun w s => (rds_row 3 rfl rfl) [] w s) rfl (by simp; omega) (by unfold maxLen; simp; omega))) rfl ?_; rintro _ _ ⟨ao81, ac81, rfl, rfl⟩; refine ⟨[_, _, _, _, _], rfl, ?_⟩
      refine e_q 14 rfl (wn_none rfl) (op_nilck rfl) ?_
      refine e_q 15 rfl (wn_none rfl) (op_field fld_116_1 rfl) ?_
      refine et_1 (i := 16) (by kernel_rfl) ?_
      refine ei_iN rfl rfl (wn_none rfl) (os_pull4 (os_store (v := .slice _ _ _) sc_42 rfl rfl rfl rfl (Free.zero _) rfl)) ?_; rintro _ _ ⟨rfl, rfl⟩; refine ⟨[_, _, _, _, _], rfl, ?_⟩
      refine e_q 17 rfl (wn_none rfl) (op_nilck rfl) ?_
      refine e_q 18 rfl (wn_none rfl) (op_field fld_116_2 rfl) ?_
      refine et_1 (i := 19) (by kernel_rfl) ?_
      refine ei_iN rfl rfl (wn_none rfl) (os_store (v := .slice _ _ _) sc_42 rfl rfl rfl rfl (Free.zero _) rfl) ?_; rintro _ _ ⟨rfl, rfl⟩; refine ⟨[_, _, _, _, _], rfl, ?_⟩
      refine et_nil (by kernel_rfl) ?_
      refine px_cut (ao80, ac80, ao81, ac81) trivial ?_ (fun _ s => (by (try dsimp only); simp only [← rep_snoc]; exact ((((((((s.del 4).del 3).pull 3).pull 5).pull 5).pull 4).pull 5).pull 5)))
      repeat (first | exact kept_self | exact kept_over | refine kept_upd rfl ?_ | refine kept_overS (by decide) ?_)
    ·
     refine ei_i rfl rfl (wn_none rfl) (os_bslice (E := encI64) [_] (ys := [_]) sB_42 zv_3 rfl rfl rfl rfl (by decide)) rfl ?_; rintro _ _ ⟨ao82, rfl, rfl⟩; refine ⟨[_, _, _, _], rfl, ?_⟩
     refine et_2 (i1 := 5) (i2 := 12) (by kernel_rfl) ?_ ?_
     ·
      refine ei_i rfl rfl (wn_none rfl) (os_q (op_ld 1 sc_42 rfl rfl rfl)) rfl ?_; rintro _ _ ⟨rfl, rfl⟩; refine ⟨[_, _, _, _], rfl, ?_⟩
      refine et_2 (i1 := 7) (i2 := 12) (by kernel_rfl) ?_ ?_
      ·
       refine ei_i rfl rfl (wn_none rfl) (os_pull2 (os_append (E := encI64) rfl sB_42 zv_3 rfl rfl rfl (fun w s => (rds_row 1 rfl rfl) [] w s) rfl (by simp; omega) (by unfold maxLen; simp; omega))) rfl ?_; rintro _ _ ⟨ao83, ac83, rfl, rfl⟩; refine ⟨[_, _, _, _], rfl, ?_⟩
       refine et_1 (i := 12) (by kernel_rfl) ?_
       refine ei_i rfl rfl (wn_none rfl) (os_bslice (E := encI64) [_] (ys := [_]) sB_42 zv_3 rfl rfl rfl rfl (by decide)) rfl ?_; rintro _ _ ⟨ao84, rfl, rfl⟩; refine ⟨[_, _, _, _, _], rfl, ?_⟩
       refine et_1 (i := 13) (by kernel_rfl) ?_
       refine ei_i rfl rfl (wn_none rfl) (os_pull4 (os_append (E := encI64) rfl sB_42 zv_3 rfl rfl rfl (fun w s => (rds_row 1 rfl rfl) [] w s) rfl (by simp; omega) (by unfold maxLen; simp; omega))) rfl ?_; rintro _ _ ⟨ao85, ac85, rfl, rfl⟩; refine ⟨[_, _, _, _, _], rfl, ?_⟩
       refine e_q 14 rfl (wn_none rfl) (op_nilck rfl) ?_
       refine e_q 15 rfl (wn_none rfl) (op_field fld_116_1 rfl) ?_
       refine et_1 (i := 16) (by kernel_rfl) ?_
       refine ei_iN rfl rfl (wn_none rfl) (os_pull4 (os_store (v := .slice _ _ _) sc_42 rfl rfl rfl rfl (Free.zero _) rfl)) ?_; rintro _ _ ⟨rfl, rfl⟩; refine ⟨[_, _, _, _, _], rfl, ?_⟩
       refine e_q 17 rfl (wn_none rfl) (op_nilck rfl) ?_
       refine e_q 18 rfl (wn_none rfl) (op_field fld_116_2 rfl) ?_
       refine et_1 (i := 19) (by kernel_rfl) ?_
       refine ei_iN rfl rfl (wn_none rfl) (os_store (v := .slice _ _ _) sc_42 rfl rfl rfl rfl (Free.zero _) rfl) ?_; rintro _ _ ⟨rfl, rfl⟩; refine ⟨[_, _, _, _, _], rfl, ?_⟩
       refine et_nil (by kernel_rfl) ?_
       refine px_cut (ao83, ac83, ao85, ac85) trivial ?_ (fun _ s => (by (try dsimp only); simp only [← rep_snoc]; exact ((((((((s.del 4).del 2).pull 3).pull 5).pull 5).pull 4).pull 5).pull 5)))
       repeat (first | exact kept_self | exact kept_over | refine kept_upd rfl ?_ | refine kept_overS (by decide) ?_)
      ·
       refine ei_i rfl rfl (wn_none rfl) (os_bslice (E := encI64) [_] (ys := [_]) sB_42 zv_3 rfl rfl rfl rfl (by decide)) rfl ?_; rintro _ _ ⟨ao86, rfl, rfl⟩; refine ⟨[_, _, _, _, _], rfl, ?_⟩
       refine et_1 (i := 7) (by kernel_rfl) ?_
       refine ei_i rfl rfl (wn_none rfl) (os_pull3 (os_append (E := encI64) rfl sB_42 zv_3 rfl rfl rfl (fun w s => (rds_row 2 rfl rfl) [] w s) rfl (by simp; omega) (by unfold maxLen; simp; omega))) rfl ?_; rintro _ _ ⟨ao87, ac87, rfl, rfl⟩; refine ⟨[_, _, _, _, _], rfl, ?_⟩
       refine et_1 (i := 13) (by kernel_rfl) ?_
       refine ei_i rfl rfl (wn_none rfl) (os_pull4 (os_append (E := encI64) rfl sB_42 zv_3 rfl rfl rfl (fun w s => (rds_row 2 rfl rfl) [] w s) rfl (by simp; omega) (by unfold maxLen; simp; omega))) rfl ?_; rintro _ _ ⟨ao88, ac88, rfl, rfl⟩; refine ⟨[_, _, _, _, _], rfl, ?_⟩
       refine e_q 14 rfl (wn_none rfl) (op_nilck rfl) ?_
       refine e_q 15 rfl (wn_none rfl) (op_field fld_116_1 rfl) ?_
       refine et_1 (i := 16) (by kernel_rfl) ?_
       refine ei_iN rfl rfl (wn_none rfl) (os_pull4 (os_store (v := .slice _ _ _) sc_42 rfl rfl rfl rfl (Free.zero _) rfl)) ?_; rintro _ _ ⟨rfl, rfl⟩; refine ⟨[_, _, _, _, _], rfl, ?_⟩
       refine e_q 17 rfl (wn_none rfl) (op_nilck rfl) ?_
       refine e_q 18 rfl (wn_none rfl) (op_field fld_116_2 rfl) ?_
       refine et_1 (i := 19) (by kernel_rfl) ?_
       refine ei_iN rfl rfl (wn_none rfl) (os_store (v := .slice _ _ _) sc_42 rfl rfl rfl rfl (Free.zero _) rfl) ?_; rintro _ _ ⟨rfl, rfl⟩; refine ⟨[_, _, _, _, _], rfl, ?_⟩
       refine et_nil (by kernel_rfl) ?_
       refine px_cut (ao87, ac87, ao88, ac88) trivial ?_ (fun _ s => (by (try dsimp only); simp only [← rep_snoc]; exact ((((((((s.del 4).del 3).pull 3).pull 5).pull 5).pull 4).pull 5).pull 5)))
       repeat (first | exact kept_self | exact kept_over | refine kept_upd rfl ?_ | refine kept_overS (by decide) ?_)
     ·
      refine ei_i rfl rfl (wn_none rfl) (os_bslice (E := encI64) [_] (ys := [_]) sB_42 zv_3 rfl rfl rfl rfl (by decide)) rfl ?_; rintro _ _ ⟨ao89, rfl, rfl⟩; refine ⟨[_, _, _, _, _], rfl, ?_⟩
      refine et_1 (i := 5) (by kernel_rfl) ?_
      refine ei_i rfl rfl (wn_none rfl) (os_q (op_ld 2 sc_42 rfl rfl rfl)) rfl ?_; rintro _ _ ⟨rfl, rfl⟩; refine ⟨[_, _, _, _, _], rfl, ?_⟩
      refine et_1 (i := 7) (by kernel_rfl) ?_
      refine ei_i rfl rfl (wn_none rfl) (os_pull3 (os_append (E := encI64) rfl sB_42 zv_3 rfl rfl rfl (fun w s => (rds_row 2 rfl rfl) [] w s) rfl (by simp; omega) (by unfold maxLen; simp; omega))) rfl ?_; rintro _ _ ⟨ao90, ac90, rfl, rfl⟩; refine ⟨[_, _, _, _, _], rfl, ?_⟩
      refine et_1 (i := 13) (by kernel_rfl) ?_
      refine ei_i rfl rfl (wn_none rfl) (os_pull4 (os_append (E := encI64) rfl sB_42 zv_3 rfl rfl rfl (fun w s => (rds_row 2 rfl rfl) [] w s) rfl (by simp; omega) (by unfold maxLen; simp; omega))) rfl ?_; rintro _ _ ⟨ao91, ac91, rfl, rfl⟩; refine ⟨[_, _, _, _, _], rfl, ?_⟩
      refine e_q 14 rfl (wn_none rfl) (op_nilck rfl) ?_
      refine e_q 15 rfl (wn_none rfl) (op_field fld_116_1 rfl) ?_
      refine et_1 (i := 16) (by kernel_rfl) ?_
      refine ei_iN rfl rfl (wn_none rfl) (os_pull4 (os_store (v := .slice _ _ _) sc_42 rfl rfl rfl rfl (Free.zero _) rfl)) ?_; rintro _ _ ⟨rfl, rfl⟩; refine ⟨[_, _, _, _, _], rfl, ?_⟩
      refine e_q 17 rfl (wn_none rfl) (op_nilck rfl) ?_
      refine e_q 18 rfl (wn_none rfl) (op_field fld_116_2 rfl) ?_
      refine et_1 (i := 19) (by kernel_rfl) ?_
      refine ei_iN rfl rfl (wn_none rfl) (os_store (v := .slice _ _ _) sc_42 rfl rfl rfl rfl (Free.zero _) rfl) ?_; rintro _ _ ⟨rfl, rfl⟩; refine ⟨[_, _, _, _, _], rfl, ?_⟩
      refine et_nil (by kernel_rfl) ?_
      refine px_cut (ao90, ac90, ao91, ac91) trivial ?_ (fun _ s => (by (try dsimp only); simp only [← rep_snoc]; exact ((((((((s.del 4).del 3).pull 3).pull 5).pull 5).pull 4).pull 5).pull 5)))
      repeat (first | exact kept_self | exact kept_over | refine kept_upd rfl ?_ | refine kept_overS (by decide) ?_)
    ·
     refine ei_i rfl rfl (wn_none rfl) (os_bslice (E := encI64) [_] (ys := [_]) sB_42 zv_3 rfl rfl rfl rfl (by decide)) rfl ?_; rintro _ _ ⟨ao92, rfl, rfl⟩; refine ⟨[_, _, _, _], rfl, ?_⟩
     refine et_2 (i1 := 5) (i2 := 6) (by kernel_rfl) ?_ ?_
     ·
      refine ei_i rfl rfl (wn_none rfl) (os_q (op_ld 1 sc_42 rfl rfl rfl)) rfl ?_; rintro _ _ ⟨rfl, rfl⟩; refine ⟨[_, _, _, _], rfl, ?_⟩
      refine et_1 (i := 6) (by kernel_rfl) ?_
      refine ei_i rfl rfl (wn_none rfl) (os_bslice (E := encI64) [_] (ys := [_]) sB_42 zv_3 rfl rfl rfl rfl (by decide)) rfl ?_; rintro _ _ ⟨ao93, rfl, rfl⟩; refine ⟨[_, _, _, _, _], rfl, ?_⟩
      refine et_1 (i := 7) (by kernel_rfl) ?_
      refine ei_i rfl rfl (wn_none rfl) (os_pull3 (os_append (E := encI64) rfl sB_42 zv_3 rfl rfl rfl (fun w s => (rds_row 1 rfl rfl) [] w s) rfl (by simp; omega) (by unfold maxLen; simp; omega))) rfl ?_; rintro _ _ ⟨ao94, ac94, rfl, rfl⟩; refine ⟨[_, _, _, _, _], rfl, ?_⟩
      refine et_1 (i := 13) (by kernel_rfl) ?_
      refine ei_i rfl rfl (wn_none rfl) (os_pull4 (os_append (E := encI64) rfl sB_42 zv_3 rfl rfl rfl (fun w s => (rds_row 3 rfl rfl) [] w s) rfl (by simp; omega) (by unfold maxLen; simp; omega))) rfl ?_; rintro _ _ ⟨ao95, ac95, rfl, rfl⟩; refine ⟨[_, _, _, _, _], rfl, ?_⟩
      refine e_q 14 rfl (wn_none rfl) (op_nilck rfl) ?_
      refine e_q 15 rfl (wn_none rfl) (op_field fld_116_1 rfl) ?_
      refine et_1 (i := 16) (by kernel_rfl) ?_
      refine ei_iN rfl rfl (wn_none rfl) (os_pull4 (os_store (v := .slice _ _ _) sc_42 rfl rfl rfl rfl (Free.zero _) rfl)) ?_; rintro _ _ ⟨rfl, rfl⟩; refine ⟨[_, _, _, _, _], rfl, ?_⟩
      refine e_q 17 rfl (wn_none rfl) (op_nilck rfl) ?_
      refine e_q 18 rfl (wn_none rfl) (op_field fld_116_2 rfl) ?_
      refine et_1 (i := 19) (by kernel_rfl) ?_
      refine ei_iN rfl rfl (wn_none rfl) (os_store (v := .slice _ _ _) sc_42 rfl rfl rfl rfl (Free.zero _) rfl) ?_; rintro _ _ ⟨rfl, rfl⟩; refine ⟨[_, _, _, _, _], rfl, ?_⟩
      refine et_nil (by kernel_rfl) ?_
      refine px_cut (ao94, ac94, ao95, ac95) trivial ?_ (fun _ s => (by (try dsimp only); simp only [← rep_snoc]; exact ((((((((s.del 4).del 3).pull 3).pull 5).pull 5).pull 4).pull 5).pull 5)))
      repeat (first | exact kept_self | exact kept_over | refine kept_upd rfl ?_ | refine kept_overS (by decide) ?_)
     ·
      refine ei_i rfl rfl (wn_none rfl) (os_bslice (E := encI64) [_] (ys := [_]) sB_42 zv_3 rfl rfl rfl rfl (by decide)) rfl ?_; rintro _ _ ⟨ao96, rfl, rfl⟩; refine ⟨[_, _, _, _, _], rfl, ?_⟩
      refine et_1 (i := 5) (by kernel_rfl) ?_
      refine ei_i rfl rfl (wn_none rfl) (os_q (op_ld 2 sc_42 rfl rfl rfl)) rfl ?_; rintro _ _ ⟨rfl, rfl⟩; refine ⟨[_, _, _, _, _], rfl, ?_⟩
      refine et_1 (i := 7) (by kernel_rfl) ?_
      refine ei_i rfl rfl (wn_none rfl) (os_pull3 (os_append (E := encI64) rfl sB_42 zv_3 rfl rfl rfl (fun w s => (rds_row 1 rfl rfl) [] w s) rfl (by simp; omega) (by unfold maxLen; simp; omega))) rfl ?_; rintro _ _ ⟨ao97, ac97, rfl, rfl⟩; refine ⟨[_, _, _, _, _], rfl, ?_⟩
      refine et_1 (i := 13) (by kernel_rfl) ?_
      refine ei_i rfl rfl (wn_none rfl) (os_pull4 (os_append (E := encI64) rfl sB_42 zv_3 rfl rfl rfl (fun w s => (rds_row 3 rfl rfl) [] w s) rfl (by simp; omega) (by unfold maxLen; simp; omega))) rfl ?_; rintro _ _ ⟨ao98, ac98, rfl, rfl⟩; refine ⟨[_, _, _, _, _], rfl, ?_⟩
      refine e_q 14 rfl (wn_none rfl) (op_nilck rfl) ?_
      refine e_q 15 rfl (wn_none rfl) (op_field fld_116_1 rfl) ?_
      refine et_1 (i := 16) (by kernel_rfl) ?_
      refine ei_iN rfl rfl (wn_none rfl) (os_pull4 (os_store (v := .slice _ _ _) sc_42 rfl rfl rfl rfl (Free.zero _) rfl)) ?_; rintro _ _ ⟨rfl, rfl⟩; refine ⟨[_, _, _, _, _], rfl, ?_⟩
      refine e_q 17 rfl (wn_none rfl) (op_nilck rfl) ?_
      refine e_q 18 rfl (wn_none rfl) (op_field fld_116_2 rfl) ?_
      refine et_1 (i := 19) (by kernel_rfl) ?_
      refine ei_iN rfl rfl (wn_none rfl) (os_store (v := .slice _ _ _) sc_42 rfl rfl rfl rfl (Free.zero _) rfl) ?_; rintro _ _ ⟨rfl, rfl⟩; refine ⟨[_, _, _, _, _], rfl, ?_⟩
      refine et_nil (by kernel_rfl) ?_
      refine px_cut (ao97, ac97, ao98, ac98) trivial ?_ (fun _ s => (by (try dsimp only); simp only [← rep_snoc]; exact ((((((((s.del 4).del 3).pull 3).pull 5).pull 5).pull 4).pull 5).pull 5)))
      repeat (first | exact kept_self | exact kept_over | refine kept_upd rfl ?_ | refine kept_overS (by decide) ?_)
   ·
    refine ei_i rfl rfl (wn_none rfl) (os_bslice (E := encI64) [_] (ys := [_]) sB_42 zv_3 rfl rfl rfl rfl (by decide)) rfl ?_; rintro _ _ ⟨ao99, rfl, rfl⟩; refine ⟨[_, _, _, _], rfl, ?_⟩
    refine et_3 (i1 := 5) (i2 := 6) (i3 := 11) (by kernel_rfl) ?_ ?_ ?_
    ·
     refine ei_i rfl rfl (wn_none rfl) (os_q (op_ld 1 sc_42 rfl rfl rfl)) rfl ?_; rintro _ _ ⟨rfl, rfl⟩; refine ⟨[_, _, _, _], rfl, ?_⟩
     refine et_2 (i1 := 6) (i2 := 11) (by kernel_rfl) ?_ ?_
     ·
      refine ei_i rfl rfl (wn_none rfl) (os_bslice (E := encI64) [_] (ys := [_]) sB_42 zv_3 rfl rfl rfl rfl (by decide)) rfl ?_; rintro _ _ ⟨ao100, rfl, rfl⟩; refine ⟨[_, _, _, _, _], rfl, ?_⟩
      refine et_2 (i1 := 7) (i2 := 11) (by kernel_rfl) ?_ ?_
      ·
       refine ei_i rfl rfl (wn_none rfl) (os_pull3 (os_append (E := encI64) rfl sB_42 zv_3 rfl rfl rfl (fun w s => (rds_row 1 rfl rfl) [] w s) rfl (by simp; omega) (by unfold maxLen; simp; omega))) rfl ?_; rintro _ _ ⟨ao101, ac101, rfl, rfl⟩; refine ⟨[_, _, _, _, _], rfl, ?_⟩
       refine et_1 (i := 11) (by kernel_rfl) ?_
       refine ei_i rfl rfl (wn_none rfl) (os_q (op_ld 3 sc_42 rfl rfl rfl)) rfl ?_; rintro _ _ ⟨rfl, rfl⟩; refine ⟨[_, _, _, _, _], rfl, ?_⟩
       refine et_1 (i := 13) (by kernel_rfl) ?_
       refine ei_i rfl rfl (wn_none rfl) (os_pull4 (os_append (E := encI64) rfl sB_42 zv_3 rfl rfl rfl (fun w s => (rds_row 3 rfl rfl) [] w s) rfl (by simp; omega) (by unfold maxLen; simp; omega))) rfl ?_; rintro _ _ ⟨ao102, ac102, rfl, rfl⟩; refine ⟨[_, _, _, _, _], rfl, ?_⟩
       refine e_q 14 rfl (wn_none rfl) (op_nilck rfl) ?_
       refine e_q 15 rfl (wn_none rfl) (op_field fld_116_1 rfl) ?_
       refine et_1 (i := 16) (by kernel_rfl) ?_
       refine ei_iN rfl rfl (wn_none rfl) (os_pull4 (os_store (v := .slice _ _ _) sc_42 rfl rfl rfl rfl (Free.zero _) rfl)) ?_; rintro _ _ ⟨rfl, rfl⟩; refine ⟨[_, _, _, _, _], rfl, ?_⟩
       refine e_q 17 rfl (wn_none rfl) (op_nilck rfl) ?_
       refine e_q 18 rfl (wn_none rfl) (op_field fld_116_2 rfl) ?_
       refine et_1 (i := 19) (by kernel_rfl) ?_
       refine ei_iN rfl rfl (wn_none rfl) (os_store (v := .slice _ _ _) sc_42 rfl rfl rfl rfl (Free.zero _) rfl) ?_; rintro _ _ ⟨rfl, rfl⟩; refine ⟨[_, _, _, _, _], rfl, ?_⟩
       refine et_nil (by kernel_rfl) ?_
       refine px_cut (ao101, ac101, ao102, ac102) trivial ?_ (fun _ s => (by (try dsimp only); simp only [← rep_snoc]; exact ((((((((s.del 4).del 3).pull 3).pull 5).pull 5).pull 4).pull 5).pull 5)))
       repeat (first | exact kept_self | exact kept_over | refine kept_upd rfl ?_ | refine kept_overS (by decide) ?_)
      ·
       refine ei_i rfl rfl (wn_none rfl) (os_q (op_ld 2 sc_42 rfl rfl rfl)) rfl ?_; rintro _ _ ⟨rfl, rfl⟩; refine ⟨[_, _, _, _, _], rfl, ?_⟩
       refine et_1 (i := 7) (by kernel_rfl) ?_
       refine ei_i rfl rfl (wn_none rfl) (os_pull3 (os_append (E := encI64) rfl sB_42 zv_3 rfl rfl rfl (fun w s => (rds_row 1 rfl rfl) [] w s) rfl (by simp; omega) (by unfold maxLen; simp; omega))) rfl ?_; rintro _ _ ⟨ao103, ac103, rfl, rfl⟩; refine ⟨[_, _, _, _, _], rfl, ?_⟩
       refine et_1 (i := 13) (by kernel_rfl) ?_
       refine ei_i rfl rfl (wn_none rfl) (os_pull4 (os_append (E := encI64) rfl sB_42 zv_3 rfl rfl rfl (fun w s => (rds_row 3 rfl rfl) [] w s) rfl (by simp; omega) (by unfold maxLen; simp; omega))) rfl ?_; rintro _ _ ⟨ao104, ac104, rfl, rfl⟩; refine ⟨[_, _, _, _, _], rfl, ?_⟩
       refine e_q 14 rfl (wn_none rfl) (op_nilck rfl) ?_
       refine e_q 15 rfl (wn_none rfl) (op_field fld_116_1 rfl) ?_
       refine et_1 (i := 16) (by kernel_rfl) ?_
       refine ei_iN rfl rfl (wn_none rfl) (os_pull4 (os_store (v := .slice _ _ _) sc_42 rfl rfl rfl rfl (Free.zero _) rfl)) ?_; rintro _ _ ⟨rfl, rfl⟩; refine ⟨[_, _, _, _, _], rfl, ?_⟩
       refine e_q 17 rfl (wn_none rfl) (op_nilck rfl) ?_
       refine e_q 18 rfl (wn_none rfl) (op_field fld_116_2 rfl) ?_
       refine et_1 (i := 19) (by kernel_rfl) ?_
       refine ei_iN rfl rfl (wn_none rfl) (os_store (v := .slice _ _ _) sc_42 rfl rfl rfl rfl (Free.zero _) rfl) ?_; rintro _ _ ⟨rfl, rfl⟩; refine ⟨[_, _, _, _, _], rfl, ?_⟩
       refine et_nil (by kernel_rfl) ?_
       refine px_cut (ao103, ac103, ao104, ac104) trivial ?_ (fun _ s => (by (try dsimp only); simp only [← rep_snoc]; exact ((((((((s.del 4).del 3).pull 3).pull 5).pull 5).pull 4).pull 5).pull 5)))
       repeat (first | exact kept_self | exact kept_over | refine kept_upd rfl ?_ | refine kept_overS (by decide) ?_)
     ·
      refine ei_i rfl rfl (wn_none rfl) (os_q (op_ld 1 sc_42 rfl rfl rfl)) rfl ?_; rintro _ _ ⟨rfl, rfl⟩; refine ⟨[_, _, _, _], rfl, ?_⟩
      refine et_1 (i := 6) (by kernel_rfl) ?_
      refine ei_i rfl rfl (wn_none rfl) (os_bslice (E := encI64) [_] (ys := [_]) sB_42 zv_3 rfl rfl rfl rfl (by decide)) rfl ?_; rintro _ _ ⟨ao105, rfl, rfl⟩; refine ⟨[_, _, _, _, _], rfl, ?_⟩
      refine et_1 (i := 7) (by kernel_rfl) ?_
      refine ei_i rfl rfl (wn_none rfl) (os_pull3 (os_append (E := encI64) rfl sB_42 zv_3 rfl rfl rfl (fun w s => (rds_row 1 rfl rfl) [] w s) rfl (by simp; omega) (by unfold maxLen; simp; omega))) rfl ?_; rintro _ _ ⟨ao106, ac106, rfl, rfl⟩; refine ⟨[_, _, _, _, _], rfl, ?_⟩
      refine et_1 (i := 13) (by kernel_rfl) ?_
      refine ei_i rfl rfl (wn_none rfl) (os_pull4 (os_append (E := encI64) rfl sB_42 zv_3 rfl rfl rfl (fun w s => (rds_row 3 rfl rfl) [] w s) rfl (by simp; omega) (by unfold maxLen; simp; omega))) rfl ?_; rintro _ _ ⟨ao107, ac107, rfl, rfl⟩; refine ⟨[_, _, _, _, _], rfl, ?_⟩
      refine e_q 14 rfl (wn_none rfl) (op_nilck rfl) ?_
      refine e_q 15 rfl (wn_none rfl) (op_field fld_116_1 rfl) ?_
      refine et_1 (i := 16) (by kernel_rfl) ?_
      refine ei_iN rfl rfl (wn_none rfl) (os_pull4 (os_store (v := .slice _ _ _) sc_42 rfl rfl rfl rfl (Free.zero _) rfl)) ?_; rintro _ _ ⟨rfl, rfl⟩; refine ⟨[_, _, _, _, _], rfl, ?_⟩
      refine e_q 17 rfl (wn_none rfl) (op_nilck rfl) ?_
      refine e_q 18 rfl (wn_none rfl) (op_field fld_116_2 rfl) ?_
      refine et_1 (i := 19) (by kernel_rfl) ?_
      refine ei_iN rfl rfl (wn_none rfl) (os_store (v := .slice _ _ _) sc_42 rfl rfl rfl rfl (Free.zero _) rfl) ?_; rintro _ _ ⟨rfl, rfl⟩; refine ⟨[_, _, _, _, _], rfl, ?_⟩
      refine et_nil (by kernel_rfl) ?_
      refine px_cut (ao106, ac106, ao107, ac107) trivial ?_ (fun _ s => (by (try dsimp only); simp only [← rep_snoc]; exact ((((((((s.del 4).del 3).pull 3).pull 5).pull 5).pull 4).pull 5).pull 5)))
      repeat (first | exact kept_self | exact kept_over | refine kept_upd rfl ?_ | refine kept_overS (by decide) ?_)
    ·
     refine ei_i rfl rfl (wn_none rfl) (os_bslice (E := encI64) [_] (ys := [_]) sB_42 zv_3 rfl rfl rfl rfl (by decide)) rfl ?_; rintro _ _ ⟨ao108, rfl, rfl⟩; refine ⟨[_, _, _, _, _], rfl, ?_⟩
     refine et_2 (i1 := 5) (i2 := 11) (by kernel_rfl) ?_ ?_
     ·
      refine ei_i rfl rfl (wn_none rfl) (os_q (op_ld 2 sc_42 rfl rfl rfl)) rfl ?_; rintro _ _ ⟨rfl, rfl⟩; refine ⟨[_, _, _, _, _], rfl, ?_⟩
      refine et_2 (i1 := 7) (i2 := 11) (by kernel_rfl) ?_ ?_
      ·
       refine ei_i rfl rfl (wn_none rfl) (os_pull3 (os_append (E := encI64) rfl sB_42 zv_3 rfl rfl rfl (fun w s => (rds_row 1 rfl rfl) [] w s) rfl (by simp; omega) (by unfold maxLen; simp; omega))) rfl ?_; rintro _ _ ⟨ao109, ac109, rfl, rfl⟩; refine ⟨[_, _, _, _, _], rfl, ?_⟩
       refine et_1 (i := 11) (by kernel_rfl) ?_
       refine ei_i rfl rfl (wn_none rfl) (os_q (op_ld 3 sc_42 rfl rfl rfl)) rfl ?_; rintro _ _ ⟨rfl, rfl⟩; refine ⟨[_, _, _, _, _], rfl, ?_⟩
       refine et_1 (i := 13) (by kernel_rfl) ?_
       refine ei_i rfl rfl (wn_none rfl) (os_pull4 (os_append (E := encI64) rfl sB_42 zv_3 rfl rfl rfl (fun w s => (rds_row 3 rfl rfl) [] w s) rfl (by simp; omega) (by unfold maxLen; simp; omega))) rfl ?_; rintro _ _ ⟨ao110, ac110, rfl, rfl⟩; refine ⟨[_, _, _, _, _], rfl, ?_⟩
       refine e_q 14 rfl (wn_none rfl) (op_nilck rfl) ?_
       refine e_q 15 rfl (wn_none rfl) (op_field fld_116_1 rfl) ?_
       refine et_1 (i := 16) (by kernel_rfl) ?_
       refine ei_iN rfl rfl (wn_none rfl) (os_pull4 (os_store (v := .slice _ _ _) sc_42 rfl rfl rfl rfl (Free.zero _) rfl)) ?_; rintro _ _ ⟨rfl, rfl⟩; refine ⟨[_, _, _, _, _], rfl, ?_⟩
       refine e_q 17 rfl (wn_none rfl) (op_nilck rfl) ?_
       refine e_q 18 rfl (wn_none rfl) (op_field fld_116_2 rfl) ?_
       refine et_1 (i := 19) (by kernel_rfl) ?_
       refine ei_iN rfl rfl (wn_none rfl) (os_store (v := .slice _ _ _) sc_42 rfl rfl rfl rfl (Free.zero _) rfl) ?_; rintro _ _ ⟨rfl, rfl⟩; refine ⟨[_, _, _, _, _], rfl, ?_⟩
       refine et_nil (by kernel_rfl) ?_
       refine px_cut (ao109, ac109, ao110, ac110) trivial ?_ (fun _ s => (by (try dsimp only); simp only [← rep_snoc]; exact ((((((((s.del 4).del 3).pull 3).pull 5).pull 5).pull 4).pull 5).pull 5)))
       repeat (first | exact kept_self | exact kept_over | refine kept_upd rfl ?_ | refine kept_overS (by decide) ?_)
      ·
       refine ei_i rfl rfl (wn_none rfl) (os_q (op_ld 2 sc_42 rfl rfl rfl)) rfl ?_; rintro _ _ ⟨rfl, rfl⟩; refine ⟨[_, _, _, _, _], rfl, ?_⟩
       refine et_1 (i := 7) (by kernel_rfl) ?_
       refine ei_i rfl rfl (wn_none rfl) (os_pull3 (os_append (E := encI64) rfl sB_42 zv_3 rfl rfl rfl (fun w s => (rds_row 1 rfl rfl) [] w s) rfl (by simp; omega) (by unfold maxLen; simp; omega))) rfl ?_; rintro _ _ ⟨ao111, ac111, rfl, rfl⟩; refine ⟨[_, _, _, _, _], rfl, ?_⟩
       refine et_1 (i := 13) (by kernel_rfl) ?_
       refine ei_i rfl rfl (wn_none rfl) (os_pull4 (os_append (E := encI64) rfl sB_42 zv_3 rfl rfl rfl (fun w s => (rds_row 3 rfl rfl) [] w s) rfl (by simp; omega) (by unfold maxLen; simp; omega))) rfl ?_; rintro _ _ ⟨ao112, ac112, rfl, rfl⟩; refine ⟨[_, _, _, _, _], rfl, ?_⟩
       refine e_q 14 rfl (wn_none rfl) (op_nilck rfl) ?_
       refine e_q 15 rfl (wn_none rfl) (op_field fld_116_1 rfl) ?_
       refine et_1 (i := 16) (by kernel_rfl) ?_
       refine ei_iN rfl rfl (wn_none rfl) (os_pull4 (os_store (v := .slice _ _ _) sc_42 rfl rfl rfl rfl (Free.zero _) rfl)) ?_; rintro _ _ ⟨rfl, rfl⟩; refine ⟨[_, _, _, _, _], rfl, ?_⟩
       refine e_q 17 rfl (wn_none rfl) (op_nilck rfl) ?_
       refine e_q 18 rfl (wn_none rfl) (op_field fld_116_2 rfl) ?_
       refine et_1 (i := 19) (by kernel_rfl) ?_
       refine ei_iN rfl rfl (wn_none rfl) (os_store (v := .slice _ _ _) sc_42 rfl rfl rfl rfl (Free.zero _) rfl) ?_; rintro _ _ ⟨rfl, rfl⟩; refine ⟨[_, _, _, _, _], rfl, ?_⟩
       refine et_nil (by kernel_rfl) ?_
       refine px_cut (ao111, ac111, ao112, ac112) trivial ?_ (fun _ s => (by (try dsimp only); simp only [← rep_snoc]; exact ((((((((s.del 4).del 3).pull 3).pull 5).pull 5).pull 4).pull 5).pull 5)))
       repeat (first | exact kept_self | exact kept_over | refine kept_upd rfl ?_ | refine kept_overS (by decide) ?_)
     ·
      refine ei_i rfl rfl (wn_none rfl) (os_q (op_ld 2 sc_42 rfl rfl rfl)) rfl ?_; rintro _ _ ⟨rfl, rfl⟩; refine ⟨[_, _, _, _, _], rfl, ?_⟩
      refine et_1 (i := 5) (by kernel_rfl) ?_
      refine ei_i rfl rfl (wn_none rfl) (os_q (op_ld 2 sc_42 rfl rfl rfl)) rfl ?_; rintro _ _ ⟨rfl, rfl⟩; refine ⟨[_, _, _, _, _], rfl, ?_⟩
      refine et_1 (i := 7) (by kernel_rfl) ?_
      refine ei_i rfl rfl (wn_none rfl) (os_pull3 (os_append (E := encI64) rfl sB_42 zv_3 rfl rfl rfl (fun w s => (rds_row 1 rfl rfl) [] w s) rfl (by simp; omega) (by unfold maxLen; simp; omega))) rfl ?_; rintro _ _ ⟨ao113, ac113, rfl, rfl⟩; refine ⟨[_, _, _, _, _], rfl, ?_⟩
      refine et_1 (i := 13) (by kernel_rfl) ?_
      refine ei_i rfl rfl (wn_none rfl) (os_pull4 (os_append (E := encI64) rfl sB_42 zv_3 rfl rfl rfl (fun w s => (rds_row 3 rfl rfl) [] w s) rfl (by simp; omega) (by unfold maxLen; simp; omega))) rfl ?_; rintro _ _ ⟨ao114, ac114, rfl, rfl⟩; refine ⟨[_, _, _, _, _], rfl, ?_⟩
      refine e_q 14 rfl (wn_none rfl) (op_nilck rfl) ?_
      refine e_q 15 rfl (wn_none rfl) (op_field fld_116_1 rfl) ?_
      refine et_1 (i := 16) (by kernel_rfl) ?_
      refine ei_iN rfl rfl (wn_none rfl) (os_pull4 (os_store (v := .slice _ _ _) sc_42 rfl rfl rfl rfl (Free.zero _) rfl)) ?_; rintro _ _ ⟨rfl, rfl⟩; refine ⟨[_, _, _, _, _], rfl, ?_⟩
      refine e_q 17 rfl (wn_none rfl) (op_nilck rfl) ?_
      refine e_q 18 rfl (wn_none rfl) (op_field fld_116_2 rfl) ?_
      refine et_1 (i := 19) (by kernel_rfl) ?_
      refine ei_iN rfl rfl (wn_none rfl) (os_store (v := .slice _ _ _) sc_42 rfl rfl rfl rfl (Free.zero _) rfl) ?_; rintro _ _ ⟨rfl, rfl⟩; refine ⟨[_, _, _, _, _], rfl, ?_⟩
      refine et_nil (by kernel_rfl) ?_
      refine px_cut (ao113, ac113, ao114, ac114) trivial ?_ (fun _ s => (by (try dsimp only); simp only [← rep_snoc]; exact ((((((((s.del 4).del 3).pull 3).pull 5).pull 5).pull 4).pull 5).pull 5)))
      repeat (first | exact kept_self | exact kept_over | refine kept_upd rfl ?_ | refine kept_overS (by decide) ?_)
    ·
     refine ei_i rfl rfl (wn_none rfl) (os_q (op_ld 1 sc_42 rfl rfl rfl)) rfl ?_; rintro _ _ ⟨rfl, rfl⟩; refine ⟨[_, _, _, _], rfl, ?_⟩
     refine et_2 (i1 := 5) (i2 := 6) (by kernel_rfl) ?_ ?_
     ·
      refine ei_i rfl rfl (wn_none rfl) (os_q (op_ld 1 sc_42 rfl rfl rfl)) rfl ?_; rintro _ _ ⟨rfl, rfl⟩; refine ⟨[_, _, _, _], rfl, ?_⟩
      refine et_1 (i := 6) (by kernel_rfl) ?_
      refine ei_i rfl rfl (wn_none rfl) (os_bslice (E := encI64) [_] (ys := [_]) sB_42 zv_3 rfl rfl rfl rfl (by decide)) rfl ?_; rintro _ _ ⟨ao115, rfl, rfl⟩; refine ⟨[_, _, _, _, _], rfl, ?_⟩
      refine et_1 (i := 7) (by kernel_rfl) ?_
      refine ei_i rfl rfl (wn_none rfl) (os_pull3 (os_append (E := encI64) rfl sB_42 zv_3 rfl rfl rfl (fun w s => (rds_row 1 rfl rfl) [] w s) rfl (by simp; omega) (by unfold maxLen; simp; omega))) rfl ?_; rintro _ _ ⟨ao116, ac116, rfl, rfl⟩; refine ⟨[_, _, _, _, _], rfl, ?_⟩
      refine et_1 (i := 13) (by kernel_rfl) ?_
      refine ei_i rfl rfl (wn_none rfl) (os_pull4 (os_append (E := encI64) rfl sB_42 zv_3 rfl rfl rfl (fun w s => (rds_row 3 rfl rfl) [] w s) rfl (by simp; omega) (by unfold maxLen; simp; omega))) rfl ?_; rintro _ _ ⟨ao117, ac117, rfl, rfl⟩; refine ⟨[_, _, _, _, _], rfl, ?_⟩
      refine e_q 14 rfl (wn_none rfl) (op_nilck rfl) ?_
      refine e_q 15 rfl (wn_none rfl) (op_field fld_116_1 rfl) ?_
      refine et_1 (i := 16) (by kernel_rfl) ?_
      refine ei_iN rfl rfl (wn_none rfl) (os_pull4 (os_store (v := .slice _ _ _) sc_42 rfl rfl rfl rfl (Free.zero _) rfl)) ?_; rintro _ _ ⟨rfl, rfl⟩; refine ⟨[_, _, _, _, _], rfl, ?_⟩
      refine e_q 17 rfl (wn_none rfl) (op_nilck rfl) ?_
      refine e_q 18 rfl (wn_none rfl) (op_field fld_116_2 rfl) ?_
      refine et_1 (i := 19) (by kernel_rfl) ?_
      refine ei_iN rfl rfl (wn_none rfl) (os_store (v := .slice _ _ _) sc_42 rfl rfl rfl rfl (Free.zero _) rfl) ?_; rintro _ _ ⟨rfl, rfl⟩; refine ⟨[_, _, _, _, _], rfl, ?_⟩
      refine et_nil (by kernel_rfl) ?_
      refine px_cut (ao116, ac116, ao117, ac117) trivial ?_ (fun _ s => (by (try dsimp only); simp only [← rep_snoc]; exact ((((((((s.del 4).del 3).pull 3).pull 5).pull 5).pull 4).pull 5).pull 5)))
      repeat (first | exact kept_self | exact kept_over | refine kept_upd rfl ?_ | refine kept_overS (by decide) ?_)
     ·
      refine ei_i rfl rfl (wn_none rfl) (os_bslice (E := encI64) [_] (ys := [_]) sB_42 zv_3 rfl rfl rfl rfl (by decide)) rfl ?_; rintro _ _ ⟨ao118, rfl, rfl⟩; refine ⟨[_, _, _, _, _], rfl, ?_⟩
      refine et_1 (i := 5) (by kernel_rfl) ?_
      refine ei_i rfl rfl (wn_none rfl) (os_q (op_ld 2 sc_42 rfl rfl rfl)) rfl ?_; rintro _ _ ⟨rfl, rfl⟩; refine ⟨[_, _, _, _, _], rfl, ?_⟩
      refine et_1 (i := 7) (by kernel_rfl) ?_
      refine ei_i rfl rfl (wn_none rfl) (os_pull3 (os_append (E := encI64) rfl sB_42 zv_3 rfl rfl rfl (fun w s => (rds_row 1 rfl rfl) [] w s) rfl (by simp; omega) (by unfold maxLen; simp; omega))) rfl ?_; rintro _ _ ⟨ao119, ac119, rfl, rfl⟩; refine ⟨[_, _, _, _, _], rfl, ?_⟩
      refine et_1 (i := 13) (by kernel_rfl) ?_
      refine ei_i rfl rfl (wn_none rfl) (os_pull4 (os_append (E := encI64) rfl sB_42 zv_3 rfl rfl rfl (fun w s => (rds_row 3 rfl rfl) [] w s) rfl (by simp; omega) (by unfold maxLen; simp; omega))) rfl ?_; rintro _ _ ⟨ao120, ac120, rfl, rfl⟩; refine ⟨[_, _, _, _, _], rfl, ?_⟩
      refine e_q 14 rfl (wn_none rfl) (op_nilck rfl) ?_
      refine e_q 15 rfl (wn_none rfl) (op_field fld_116_1 rfl) ?_
      refine et_1 (i := 16) (by kernel_rfl) ?_
      refine ei_iN rfl rfl (wn_none rfl) (os_pull4 (os_store (v := .slice _ _ _) sc_42 rfl rfl rfl rfl (Free.zero _) rfl)) ?_; rintro _ _ ⟨rfl, rfl⟩; refine ⟨[_, _, _, _, _], rfl, ?_⟩
      refine e_q 17 rfl (wn_none rfl) (op_nilck rfl) ?_
      refine e_q 18 rfl (wn_none rfl) (op_field fld_116_2 rfl) ?_
      refine et_1 (i := 19) (by kernel_rfl) ?_
      refine ei_iN rfl rfl (wn_none rfl) (os_store (v := .slice _ _ _) sc_42 rfl rfl rfl rfl (Free.zero _) rfl) ?_; rintro _ _ ⟨rfl, rfl⟩; refine ⟨[_, _, _, _, _], rfl, ?_⟩
      refine et_nil (by kernel_rfl) ?_
      refine px_cut (ao119, ac119, ao120, ac120) trivial ?_ (fun _ s => (by (try dsimp only); simp only [← rep_snoc]; exact ((((((((s.del 4).del 3).pull 3).pull 5).pull 5).pull 4).pull 5).pull 5)))
      repeat (first | exact kept_self | exact kept_over | refine kept_upd rfl ?_ | refine kept_overS (by decide) ?_)
  ·rintro ⟨e1, g1, e2, g2⟩ f; (try dsimp only)
   refine cd_pull4 ?_
   refine cd_pull4 ?_
   refine cd_pull2 ?_
   refine cd_drawe (M := [_, _, _]) mx [5, 6, 7, 11, 12, 13, 16, 19] ?_
   refine e_q 0 rfl (wn_none rfl) (op_move (v := .pointer _) rfl) ?_
   refine e_q 1 rfl (wn_none rfl) (op_move (v := .pointer _) rfl) ?_
   refine e_q 2 rfl (wn_none rfl) (op_move (v := .pointer _) rfl) ?_
   refine e_q 3 rfl (wn_none rfl) (op_nilck rfl) ?_
   refine e_q 4 rfl (wn_none rfl) (op_field fld_116_3 rfl) ?_
   refine e_q 8 rfl (wn_none rfl) (op_move (v := .pointer _) rfl) ?_
   refine e_q 9 rfl (wn_none rfl) (op_nilck rfl) ?_
   refine e_q 10 rfl (wn_none rfl) (op_field fld_116_4 rfl) ?_
   refine et_4 (i1 := 5) (i2 := 6) (i3 := 11) (i4 := 12) (by kernel_rfl) ?_ ?_ ?_ ?_
   ·
    refine ei_i rfl rfl (wn_none rfl) (os_q (op_ld 0 sc_42 rfl rfl rfl)) rfl ?_; rintro _ _ ⟨rfl, rfl⟩; refine ⟨[_, _, _], rfl, ?_⟩
    refine et_3 (i1 := 6) (i2 := 11) (i3 := 12) (by kernel_rfl) ?_ ?_ ?_
    ·
     refine ei_i rfl rfl (wn_none rfl) (os_bslice (E := encI64) [_] (ys := [_]) sB_42 zv_3 rfl rfl rfl rfl (by decide)) rfl ?_; rintro _ _ ⟨ao121, rfl, rfl⟩; refine ⟨[_, _, _, _], rfl, ?_⟩
     refine et_3 (i1 := 7) (i2 := 11) (i3 := 12) (by kernel_rfl) ?_ ?_ ?_
     ·
      refine ei_i rfl rfl (wn_none rfl) (os_pull2 (os_append (E := encI64) rfl sB_42 zv_3 rfl rfl rfl (fun w s => (rds_row 1 rfl rfl) [] w s) rfl (by simp; omega) (by unfold maxLen; simp; omega))) rfl ?_; rintro _ _ ⟨ao122, ac122, rfl, rfl⟩; refine ⟨[_, _, _, _], rfl, ?_⟩
      refine et_2 (i1 := 11) (i2 := 12) (by kernel_rfl) ?_ ?_
      ·
       refine ei_i rfl rfl (wn_none rfl) (os_q (op_ld 2 sc_42 rfl rfl rfl)) rfl ?_; rintro _ _ ⟨rfl, rfl⟩; refine ⟨[_, _, _, _], rfl, ?_⟩
       refine et_1 (i := 12) (by kernel_rfl) ?_
       refine ei_i rfl rfl (wn_none rfl) (os_bslice (E := encI64) [_] (ys := [_]) sB_42 zv_3 rfl rfl rfl rfl (by decide)) rfl ?_; rintro _ _ ⟨ao123, rfl, rfl⟩; refine ⟨[_, _, _, _, _], rfl, ?_⟩
       refine et_1 (i := 13) (by kernel_rfl) ?_
       refine ei_i rfl rfl (wn_none rfl) (os_pull4 (os_append (E := encI64) rfl sB_42 zv_3 rfl rfl rfl (fun w s => (rds_row 1 rfl rfl) [] w s) rfl (by simp; omega) (by unfold maxLen; simp; omega))) rfl ?_; rintro _ _ ⟨ao124, ac124, rfl, rfl⟩; refine ⟨[_, _, _, _, _], rfl, ?_⟩
       refine e_q 14 rfl (wn_none rfl) (op_nilck rfl) ?_
       refine e_q 15 rfl (wn_none rfl) (op_field fld_116_3 rfl) ?_
       refine et_1 (i := 16) (by kernel_rfl) ?_
       refine ei_iN rfl rfl (wn_none rfl) (os_pull4 (os_store (v := .slice _ _ _) sc_42 rfl rfl rfl rfl (Free.zero _) rfl)) ?_; rintro _ _ ⟨rfl, rfl⟩; refine ⟨[_, _, _, _, _], rfl, ?_⟩
       refine e_q 17 rfl (wn_none rfl) (op_nilck rfl) ?_
       refine e_q 18 rfl (wn_none rfl) (op_field fld_116_4 rfl) ?_
       refine et_1 (i := 19) (by kernel_rfl) ?_
       refine ei_iN rfl rfl (wn_none rfl) (os_store (v := .slice _ _ _) sc_42 rfl rfl rfl rfl (Free.zero _) rfl) ?_; rintro _ _ ⟨rfl, rfl⟩; refine ⟨[_, _, _, _, _], rfl, ?_⟩
       refine et_nil (by kernel_rfl) ?_
       refine px_blockN ?_
       refine px_loop2 (i + 1, e1, g1, e2, g2, ao122, ac122, ao124, ac124) (by dsimp only; omega) (by (try dsimp only); omega) trivial ?_ (fun _ s => (by (try dsimp only); simp only [← rep_snoc be, ← rep_snoc lf]; exact ((((((((s.del 4).del 2).pull 5).pull 2).pull 3).pull 5).pull 5).pull 5)))
       repeat (first | exact kept_over | refine kept_upd rfl ?_ | refine kept_overS (by decide) ?_)
      ·
       refine ei_i rfl rfl (wn_none rfl) (os_bslice (E := encI64) [_] (ys := [_]) sB_42 zv_3 rfl rfl rfl rfl (by decide)) rfl ?_; rintro _ _ ⟨ao125, rfl, rfl⟩; refine ⟨[_, _, _, _, _], rfl, ?_⟩
       refine et_1 (i := 11) (by kernel_rfl) ?_
       refine ei_i rfl rfl (wn_none rfl) (os_q (op_ld 3 sc_42 rfl rfl rfl)) rfl ?_; rintro _ _ ⟨rfl, rfl⟩; refine ⟨[_, _, _, _, _], rfl, ?_⟩
       refine et_1 (i := 13) (by kernel_rfl) ?_
       refine ei_i rfl rfl (wn_none rfl) (os_pull4 (os_append (E := encI64) rfl sB_42 zv_3 rfl rfl rfl (fun w s => (rds_row 1 rfl rfl) [] w s) rfl (by simp; omega) (by unfold maxLen; simp; omega))) rfl ?_; rintro _ _ ⟨ao126, ac126, rfl, rfl⟩; refine ⟨[_, _, _, _, _], rfl, ?_⟩
       refine e_q 14 rfl (wn_none rfl) (op_nilck rfl) ?_
       refine e_q 15 rfl (wn_none rfl) (op_field fld_116_3 rfl) ?_
       refine et_1 (i := 16) (by kernel_rfl) ?_
       refine ei_iN rfl rfl (wn_none rfl) (os_pull4 (os_store (v := .slice _ _ _) sc_42 rfl rfl rfl rfl (Free.zero _) rfl)) ?_; rintro _ _ ⟨rfl, rfl⟩; refine ⟨[_, _, _, _, _], rfl, ?_⟩
       refine e_q 17 rfl (wn_none rfl) (op_nilck rfl) ?_
       refine e_q 18 rfl (wn_none rfl) (op_field fld_116_4 rfl) ?_
       refine et_1 (i := 19) (by kernel_rfl) ?_
       refine ei_iN rfl rfl (wn_none rfl) (os_store (v := .slice _ _ _) sc_42 rfl rfl rfl rfl (Free.zero _) rfl) ?_; rintro _ _ ⟨rfl, rfl⟩; refine ⟨[_, _, _, _, _], rfl, ?_⟩
       refine et_nil (by kernel_rfl) ?_
       refine px_blockN ?_
       refine px_loop2 (i + 1, e1, g1, e2, g2, ao122, ac122, ao126, ac126) (by dsimp only; omega) (by (try dsimp only); omega) trivial ?_ (fun _ s => (by (try dsimp only); simp only [← rep_snoc be, ← rep_snoc lf]; exact ((((((((s.del 4).del 2).pull 5).pull 2).pull 3).pull 5).pull 5).pull 5)))
       repeat (first | exact kept_over | refine kept_upd rfl ?_ | refine kept_overS (by decide) ?_)
     ·
      refine ei_i rfl rfl (wn_none rfl) (os_q (op_ld 1 sc_42 rfl rfl rfl)) rfl ?_; rintro _ _ ⟨rfl, rfl⟩; refine ⟨[_, _, _, _], rfl, ?_⟩
      refine et_2 (i1 := 7) (i2 := 12) (by kernel_rfl) ?_ ?_
      ·
       refine ei_i rfl rfl (wn_none rfl) (os_pull2 (os_append (E := encI64) rfl sB_42 zv_3 rfl rfl rfl (fun w s => (rds_row 1 rfl rfl) [] w s) rfl (by simp; omega) (by unfold maxLen; simp; omega))) rfl ?_; rintro _ _ ⟨ao127, ac127, rfl, rfl⟩; refine ⟨[_, _, _, _], rfl, ?_⟩
       refine et_1 (i := 12) (by kernel_rfl) ?_
       refine ei_i rfl rfl (wn_none rfl) (os_bslice (E := encI64) [_] (ys := [_]) sB_42 zv_3 rfl rfl rfl rfl (by decide)) rfl ?_; rintro _ _ ⟨ao128, rfl, rfl⟩; refine ⟨[_, _, _, _, _], rfl, ?_⟩
       refine et_1 (i := 13) (by kernel_rfl) ?_
       refine ei_i rfl rfl (wn_none rfl) (os_pull4 (os_append (E := encI64) rfl sB_42 zv_3 rfl rfl rfl (fun w s => (rds_row 1 rfl rfl) [] w s) rfl (by simp; omega) (by unfold maxLen; simp; omega))) rfl ?_; rintro _ _ ⟨ao129, ac129, rfl, rfl⟩; refine ⟨[_, _, _, _, _], rfl, ?_⟩
       refine e_q 14 rfl (wn_none rfl) (op_nilck rfl) ?_
       refine e_q 15 rfl (wn_none rfl) (op_field fld_116_3 rfl) ?_
       refine et_1 (i := 16) (by kernel_rfl) ?_
       refine ei_iN rfl rfl (wn_none rfl) (os_pull4 (os_store (v := .slice _ _ _) sc_42 rfl rfl rfl rfl (Free.zero _) rfl)) ?_; rintro _ _ ⟨rfl, rfl⟩; refine ⟨[_, _, _, _, _], rfl, ?_⟩
       refine e_q 17 rfl (wn_none rfl) (op_nilck rfl) ?_
       refine e_q 18 rfl (wn_none rfl) (op_field fld_116_4 rfl) ?_
       refine et_1 (i := 19) (by kernel_rfl) ?_
       refine ei_iN rfl rfl (wn_none rfl) (os_store (v := .slice _ _ _) sc_42 rfl rfl rfl rfl (Free.zero _) rfl) ?_; rintro _ _ ⟨rfl, rfl⟩; refine ⟨[_, _, _, _, _], rfl, ?_⟩
       refine et_nil (by kernel_rfl) ?_
       refine px_blockN ?_
       refine px_loop2 (i + 1, e1, g1, e2, g2, ao127, ac127, ao129, ac129) (by dsimp only; omega) (by (try dsimp only); omega) trivial ?_ (fun _ s => (by (try dsimp only); simp only [← rep_snoc be, ← rep_snoc lf]; exact ((((((((s.del 4).del 2).pull 5).pull 2).pull 3).pull 5).pull 5).pull 5)))
       repeat (first | exact kept_over | refine kept_upd rfl ?_ | refine kept_overS (by decide) ?_)
      ·
       refine ei_i rfl rfl (wn_none rfl) (os_bslice (E := encI64) [_] (ys := [_]) sB_42 zv_3 rfl rfl rfl rfl (by decide)) rfl ?_; rintro _ _ ⟨ao130, rfl, rfl⟩; refine ⟨[_, _, _, _, _], rfl, ?_⟩
       refine et_1 (i := 7) (by kernel_rfl) ?_
       refine ei_i rfl rfl (wn_none rfl) (os_pull3 (os_append (E := encI64) rfl sB_42 zv_3 rfl rfl rfl (fun w s => (rds_row 2 rfl rfl) [] w s) rfl (by simp; omega) (by unfold maxLen; simp; omega))) rfl ?_; rintro _ _ ⟨ao131, ac131, rfl, rfl⟩; refine ⟨[_, _, _, _, _], rfl, ?_⟩
       refine et_1 (i := 13) (by kernel_rfl) ?_
       refine ei_i rfl rfl (wn_none rfl) (os_pull4 (os_append (E := encI64) rfl sB_42 zv_3 rfl rfl rfl (fun w s => (rds_row 2 rfl rfl) [] w s) rfl (by simp; omega) (by unfold maxLen; simp; omega))) rfl ?_; rintro _ _ ⟨ao132, ac132, rfl, rfl⟩; refine ⟨[_, _, _, _, _], rfl, ?_⟩
       refine e_q 14 rfl (wn_none rfl) (op_nilck rfl) ?_
       refine e_q 15 rfl (wn_none rfl) (op_field fld_116_3 rfl) ?_
       refine et_1 (i := 16) (by kernel_rfl) ?_
       refine ei_iN rfl rfl (wn_none rfl) (os_pull4 (os_store (v := .slice _ _ _) sc_42 rfl rfl rfl rfl (Free.zero _) rfl)) ?_; rintro _ _ ⟨rfl, rfl⟩; refine ⟨[_, _, _, _, _], rfl, ?_⟩
       refine e_q 17 rfl (wn_none rfl) (op_nilck rfl) ?_
       refine e_q 18 rfl (wn_none rfl) (op_field fld_116_4 rfl) ?_
       refine et_1 (i := 19) (by kernel_rfl) ?_
       refine ei_iN rfl rfl (wn_none rfl) (os_store (v := .slice _ _ _) sc_42 rfl rfl rfl rfl (Free.zero _) rfl) ?_; rintro _ _ ⟨rfl, rfl⟩; refine ⟨[_, _, _, _, _], rfl, ?_⟩
       refine et_nil (by kernel_rfl) ?_
       refine px_blockN ?_
       refine px_loop2 (i + 1, e1, g1, e2, g2, ao131, ac131, ao132, ac132) (by dsimp only; omega) (by (try dsimp only); omega) trivial ?_ (fun _ s => (by (try dsimp only); simp only [← rep_snoc be, ← rep_snoc lf]; exact ((((((((s.del 4).del 3).pull 5).pull 2).pull 3).pull 5).pull 5).pull 5)))
       repeat (first | exact kept_over | refine kept_upd rfl ?_ | refine kept_overS (by decide) ?_)
     ·
      refine ei_i rfl rfl (wn_none rfl) (os_bslice (E := encI64) [_] (ys := [_]) sB_42 zv_3 rfl rfl rfl rfl (by decide)) rfl ?_; rintro _ _ ⟨ao133, rfl, rfl⟩; refine ⟨[_, _, _, _, _], rfl, ?_⟩
      refine et_2 (i1 := 7) (i2 := 11) (by kernel_rfl) ?_ ?_
      ·
       refine ei_i rfl rfl (wn_none rfl) (os_pull3 (os_append (E := encI64) rfl sB_42 zv_3 rfl rfl rfl (fun w s => (rds_row 2 rfl rfl) [] w s) rfl (by simp; omega) (by unfold maxLen; simp; omega))) rfl ?_; rintro _ _ ⟨ao134, ac134, rfl, rfl⟩; refine ⟨[_, _, _, _, _], rfl, ?_⟩
       refine et_1 (i := 11) (by kernel_rfl) ?_
       refine ei_i rfl rfl (wn_none rfl) (os_q (op_ld 3 sc_42 rfl rfl rfl)) rfl ?_; rintro _ _ ⟨rfl, rfl⟩; refine ⟨[_, _, _, _, _], rfl, ?_⟩
       refine et_1 (i := 13) (by kernel_rfl) ?_
       refine ei_i rfl rfl (wn_none rfl) (os_pull4 (os_append (E := encI64) rfl sB_42 zv_3 rfl rfl rfl (fun w s => (rds_row 2 rfl rfl) [] w s) rfl (by simp; omega) (by unfold maxLen; simp; omega))) rfl ?_; rintro _ _ ⟨ao135, ac135, rfl, rfl⟩; refine ⟨[_, _, _, _, _], rfl, ?_⟩
       refine e_q 14 rfl (wn_none rfl) (op_nilck rfl) ?_
       refine e_q 15 rfl (wn_none rfl) (op_field fld_116_3 rfl) ?_
       refine et_1 (i := 16) (by kernel_rfl) ?_
       refine ei_iN rfl rfl (wn_none rfl) (os_pull4 (os_store (v := .slice _ _ _) sc_42 rfl rfl rfl rfl (Free.zero _) rfl)) ?_; rintro _ _ ⟨rfl, rfl⟩; refine ⟨[_, _, _, _, _], rfl, ?_⟩
       refine e_q 17 rfl (wn_none rfl) (op_nilck rfl) ?_
       refine e_q 18 rfl (wn_none rfl) (op_field fld_116_4 rfl) ?_
       refine et_1 (i := 19) (by kernel_rfl) ?_
       refine ei_iN rfl rfl (wn_none rfl) (os_store (v := .slice _ _ _) sc_42 rfl rfl rfl rfl (Free.zero _) rfl) ?_; rintro _ _ ⟨rfl, rfl⟩; refine ⟨[_, _, _, _, _], rfl, ?_⟩
       refine et_nil (by kernel_rfl) ?_
       refine px_blockN ?_
       refine px_loop2 (i + 1, e1, g1, e2, g2, ao134, ac134, ao135, ac135) (by dsimp only; omega) (by (try dsimp only); omega) trivial ?_ (fun _ s => (by (try dsimp only); simp only [← rep_snoc be, ← rep_snoc lf]; exact ((((((((s.del 4).del 3).pull 5).pull 2).pull 3).pull 5).pull 5).pull 5)))
       repeat (first | exact kept_over | refine kept_upd rfl ?_ | refine kept_overS (by decide) ?_)
      ·
       refine ei_i rfl rfl (wn_none rfl) (os_q (op_ld 2 sc_42 rfl rfl rfl)) rfl ?_; rintro _ _ ⟨rfl, rfl⟩; refine ⟨[_, _, _, _, _], rfl, ?_⟩
       refine et_1 (i := 7) (by kernel_rfl) ?_
       refine ei_i rfl rfl (wn_none rfl) (os_pull3 (os_append (E := encI64) rfl sB_42 zv_3 rfl rfl rfl (fun w s => (rds_row 2 rfl rfl) [] w s) rfl (by simp; omega) (by unfold maxLen; simp; omega))) rfl ?_; rintro _ _ ⟨ao136, ac136, rfl, rfl⟩; refine ⟨[_, _, _, _, _], rfl, ?_⟩
       refine et_1 (i := 13) (by kernel_rfl) ?_
       refine ei_i rfl rfl (wn_none rfl) (os_pull4 (os_append (E := encI64) rfl sB_42 zv_3 rfl rfl rfl (fun w s => (rds_row 2 rfl rfl) [] w s) rfl (by simp; omega) (by unfold maxLen; simp; omega))) rfl ?_; rintro _ _ ⟨ao137, ac137, rfl, rfl⟩; refine ⟨[_, _, _, _, _], rfl, ?_⟩
       refine e_q 14 rfl (wn_none rfl) (op_nilck rfl) ?_
       refine e_q 15 rfl (wn_none rfl) (op_field fld_116_3 rfl) ?_
       refine et_1 (i := 16) (by kernel_rfl) ?_
       refine ei_iN rfl rfl (wn_none rfl) (os_pull4 (os_store (v := .slice _ _ _) sc_42 rfl rfl rfl rfl (Free.zero _) rfl)) ?_; rintro _ _ ⟨rfl, rfl⟩; refine ⟨[_, _, _, _, _], rfl, ?_⟩
       refine e_q 17 rfl (wn_none rfl) (op_nilck rfl) ?_
       refine e_q 18 rfl (wn_none rfl) (op_field fld_116_4 rfl) ?_
       refine et_1 (i := 19) (by kernel_rfl) ?_
       refine ei_iN rfl rfl (wn_none rfl) (os_store (v := .slice _ _ _) sc_42 rfl rfl rfl rfl (Free.zero _) rfl) ?_; rintro _ _ ⟨rfl, rfl⟩; refine ⟨[_, _, _, _, _], rfl, ?_⟩
       refine et_nil (by kernel_rfl) ?_
       refine px_blockN ?_
       refine px_loop2 (i + 1, e1, g1, e2, g2, ao136, ac136, ao137, ac137) (by dsimp only; omega) (by (try dsimp only); omega) trivial ?_ (fun _ s => (by (try dsimp only); simp only [← rep_snoc be, ← rep_snoc lf]; exact ((((((((s.del 4).del 3).pull 5).pull 2).pull 3).pull 5).pull 5).pull 5)))
       repeat (first | exact kept_over | refine kept_upd rfl ?_ | refine kept_overS (by decide) ?_)
    ·
     refine ei_i rfl rfl (wn_none rfl) (os_q (op_ld 0 sc_42 rfl rfl rfl)) rfl ?_; rintro _ _ ⟨rfl, rfl⟩; refine ⟨[_, _, _], rfl, ?_⟩
     refine et_2 (i1 := 6) (i2 := 12) (by kernel_rfl) ?_ ?_
     ·
      refine ei_i rfl rfl (wn_none rfl) (os_bslice (E := encI64) [_] (ys := [_]) sB_42 zv_3 rfl rfl rfl rfl (by decide)) rfl ?_; rintro _ _ ⟨ao138, rfl, rfl⟩; refine ⟨[_, _, _, _], rfl, ?_⟩
      refine et_2 (i1 := 7) (i2 := 12) (by kernel_rfl) ?_ ?_
      ·
       refine ei_i rfl rfl (wn_none rfl) (os_pull2 (os_append (E := encI64) rfl sB_42 zv_3 rfl rfl rfl (fun w s => (rds_row 1 rfl rfl) [] w s) rfl (by simp; omega) (by unfold maxLen; simp; omega))) rfl ?_; rintro _ _ ⟨ao139, ac139, rfl, rfl⟩; refine ⟨[_, _, _, _], rfl, ?_⟩
       refine et_1 (i := 12) (by kernel_rfl) ?_
       refine ei_i rfl rfl (wn_none rfl) (os_bslice (E := encI64) [_] (ys := [_]) sB_42 zv_3 rfl rfl rfl rfl (by decide)) rfl ?_; rintro _ _ ⟨ao140, rfl, rfl⟩; refine ⟨[_, _, _, _, _], rfl, ?_⟩
       refine et_1 (i := 13) (by kernel_rfl) ?_
       refine ei_i rfl rfl (wn_none rfl) (os_pull4 (os_append (E := encI64) rfl sB_42 zv_3 rfl rfl rfl (fun w s => (rds_row 1 rfl rfl) [] w s) rfl (by simp; omega) (by unfold maxLen; simp; omega))) rfl ?_; rintro _ _ ⟨ao141, ac141, rfl, rfl⟩; refine ⟨[_, _, _, _, _], rfl, ?_⟩
       refine e_q 14 rfl (wn_none rfl) (op_nilck rfl) ?_
       refine e_q 15 rfl (wn_none rfl) (op_field fld_116_3 rfl) ?_
       refine et_1 (i := 16) (by kernel_rfl) ?_
       refine ei_iN rfl rfl (wn_none rfl) (os_pull4 (os_store (v := .slice _ _ _) sc_42 rfl rfl rfl rfl (Free.zero _) rfl)) ?_; rintro _ _ ⟨rfl, rfl⟩; refine ⟨[_, _, _, _, _], rfl, ?_⟩
       refine e_q 17 rfl (wn_none rfl) (op_nilck rfl) ?_
       refine e_q 18 rfl (wn_none rfl) (op_field fld_116_4 rfl) ?_
       refine et_1 (i := 19) (by kernel_rfl) ?_
       refine ei_iN rfl rfl (wn_none rfl) (os_store (v := .slice _ _ _) sc_42 rfl rfl rfl rfl (Free.zero _) rfl) ?_; rintro _ _ ⟨rfl, rfl⟩; refine ⟨[_, _, _, _, _], rfl, ?_⟩
       refine et_nil (by kernel_rfl) ?_
       refine px_blockN ?_
       refine px_loop2 (i + 1, e1, g1, e2, g2, ao139, ac139, ao141, ac141) (by dsimp only; omega) (by (try dsimp only); omega) trivial ?_ (fun _ s => (by (try dsimp only); simp only [← rep_snoc be, ← rep_snoc lf]; exact ((((((((s.del 4).del 2).pull 5).pull 2).pull 3).pull 5).pull 5).pull 5)))
       repeat (first | exact kept_over | refine kept_upd rfl ?_ | refine kept_overS (by decide) ?_)
      ·
       refine ei_i rfl rfl (wn_none rfl) (os_bslice (E := encI64) [_] (ys := [_]) sB_42 zv_3 rfl rfl rfl rfl (by decide)) rfl ?_; rintro _ _ ⟨ao142, rfl, rfl⟩; refine ⟨[_, _, _, _, _], rfl, ?_⟩
       refine et_1 (i := 7) (by kernel_rfl) ?_
       refine ei_i rfl rfl (wn_none rfl) (os_pull3 (os_append (E := encI64) rfl sB_42 zv_3 rfl rfl rfl (fun w s => (rds_row 2 rfl rfl) [] w s) rfl (by simp; omega) (by unfold maxLen; simp; omega))) rfl ?_; rintro _ _ ⟨ao143, ac143, rfl, rfl⟩; refine ⟨[_, _, _, _, _], rfl, ?_⟩
       refine et_1 (i := 13) (by kernel_rfl) ?_
       refine ei_i rfl rfl (wn_none rfl) (os_pull4 (os_append (E := encI64) rfl sB_42 zv_3 rfl rfl rfl (fun w s => (rds_row 2 rfl rfl) [] w s) rfl (by simp; omega) (by unfold maxLen; simp; omega))) rfl ?_; rintro _ _ ⟨ao144, ac144, rfl, rfl⟩; refine ⟨[_, _, _, _, _], rfl, ?_⟩
       refine e_q 14 rfl (wn_none rfl) (op_nilck rfl) ?_
       refine e_q 15 rfl (wn_none rfl) (op_field fld_116_3 rfl) ?_
       refine et_1 (i := 16) (by kernel_rfl) ?_
       refine ei_iN rfl rfl (wn_none rfl) (os_pull4 (os_store (v := .slice _ _ _) sc_42 rfl rfl rfl rfl (Free.zero _) rfl)) ?_; rintro _ _ ⟨rfl, rfl⟩; refine ⟨[_, _, _, _, _], rfl, ?_⟩
       refine e_q 17 rfl (wn_none rfl) (op_nilck rfl) ?_
       refine e_q 18 rfl (wn_none rfl) (op_field fld_116_4 rfl) ?_
       refine et_1 (i := 19) (by kernel_rfl) ?_
       refine ei_iN rfl rfl (wn_none rfl) (os_store (v := .slice _ _ _) sc_42 rfl rfl rfl rfl (Free.zero _) rfl) ?_; rintro _ _ ⟨rfl, rfl⟩; refine ⟨[_, _, _, _, _], rfl, ?_⟩
       refine et_nil (by kernel_rfl) ?_
       refine px_blockN ?_
       refine px_loop2 (i + 1, e1, g1, e2, g2, ao143, ac143, ao144, ac144) (by dsimp only; omega) (by (try dsimp only); omega) trivial ?_ (fun _ s => (by (try dsimp only); simp only [← rep_snoc be, ← rep_snoc lf]; exact ((((((((s.del 4).del 3).pull 5).pull 2).pull 3).pull 5).pull 5).pull 5)))
       repeat (first | exact kept_over | refine kept_upd rfl ?_ | refine kept_overS (by decide) ?_)
     ·
      refine ei_i rfl rfl (wn_none rfl) (os_bslice (E := encI64) [_] (ys := [_]) sB_42 zv_3 rfl rfl rfl rfl (by decide)) rfl ?_; rintro _ _ ⟨ao145, rfl, rfl⟩; refine ⟨[_, _, _, _], rfl, ?_⟩
      refine et_1 (i := 6) (by kernel_rfl) ?_
      refine ei_i rfl rfl (wn_none rfl) (os_bslice (E := encI64) [_] (ys := [_]) sB_42 zv_3 rfl rfl rfl rfl (by decide)) rfl ?_; rintro _ _ ⟨ao146, rfl, rfl⟩; refine ⟨[_, _, _, _, _], rfl, ?_⟩
      refine et_1 (i := 7) (by kernel_rfl) ?_
      refine ei_i rfl rfl (wn_none rfl) (os_pull3 (os_append (E := encI64) rfl sB_42 zv_3 rfl rfl rfl (fun w s => (rds_row 1 rfl rfl) [] w s) rfl (by simp; omega) (by unfold maxLen; simp; omega))) rfl ?_; rintro _ _ ⟨ao147, ac147, rfl, rfl⟩; refine ⟨[_, _, _, _, _], rfl, ?_⟩
      refine et_1 (i := 13) (by kernel_rfl) ?_
      refine ei_i rfl rfl (wn_none rfl) (os_pull4 (os_append (E := encI64) rfl sB_42 zv_3 rfl rfl rfl (fun w s => (rds_row 3 rfl rfl) [] w s) rfl (by simp; omega) (by unfold maxLen; simp; omega))) rfl ?_; rintro _ _ ⟨ao148, ac148, rfl, rfl⟩; refine ⟨[_, _, _, _, _], rfl, ?_⟩
      refine e_q 14 rfl (wn_none rfl) (op_nilck rfl) ?_
      refine e_q 15 rfl (wn_none rfl) (op_field fld_116_3 rfl) ?_
      refine et_1 (i := 16) (by kernel_rfl) ?_
      refine ei_iN rfl rfl (wn_none rfl) (os_pull4 (os_store (v := .slice _ _ _) sc_42 rfl rfl rfl rfl (Free.zero _) rfl)) ?_; rintro _ _ ⟨rfl, rfl⟩; refine ⟨[_, _, _, _, _], rfl, ?_⟩
      refine e_q 17 rfl (wn_none rfl) (op_nilck rfl) ?_
      refine e_q 18 rfl (wn_none rfl) (op_field fld_116_4 rfl) ?_
      refine et_1 (i := 19) (by kernel_rfl) ?_
      refine ei_iN rfl rfl (wn_none rfl) (os_store (v := .slice _ _ _) sc_42 rfl rfl rfl rfl (Free.zero _) rfl) ?_; rintro _ _ ⟨rfl, rfl⟩; refine ⟨[_, _, _, _, _], rfl, ?_⟩
      refine et_nil (by kernel_rfl) ?_
      refine px_blockN ?_
      refine px_loop2 (i + 1, e1, g1, e2, g2, ao147, ac147, ao148, ac148) (by dsimp only; omega) (by (try dsimp only); omega) trivial ?_ (fun _ s => (by (try dsimp only); simp only [← rep_snoc be, ← rep_snoc lf]; exact ((((((((s.del 4).del 3).pull 5).pull 2).pull 3).pull 5).pull 5).pull 5)))
      repeat (first | exact kept_over | refine kept_upd rfl ?_ | refine kept_overS (by decide) ?_)
    ·
     refine ei_i rfl rfl (wn_none rfl) (os_bslice (E := encI64) [_] (ys := [_]) sB_42 zv_3 rfl rfl rfl rfl (by decide)) rfl ?_; rintro _ _ ⟨ao149, rfl, rfl⟩; refine ⟨[_, _, _, _], rfl, ?_⟩
     refine et_2 (i1 := 6) (i2 := 11) (by kernel_rfl) ?_ ?_
     ·
      refine ei_i rfl rfl (wn_none rfl) (os_bslice (E := encI64) [_] (ys := [_]) sB_42 zv_3 rfl rfl rfl rfl (by decide)) rfl ?_; rintro _ _ ⟨ao150, rfl, rfl⟩; refine ⟨[_, _, _, _, _], rfl, ?_⟩
      refine et_2 (i1 := 7) (i2 := 11) (by kernel_rfl) ?_ ?_
      ·
       refine ei_i rfl rfl (wn_none rfl) (os_pull3 (os_append (E := encI64) rfl sB_42 zv_3 rfl rfl rfl (fun w s => (rds_row 1 rfl rfl) [] w s) rfl (by simp; omega) (by unfold maxLen; simp; omega))) rfl ?_; rintro _ _ ⟨ao151, ac151, rfl, rfl⟩; refine ⟨[_, _, _, _, _], rfl, ?_⟩
       refine et_1 (i := 11) (by kernel_rfl) ?_
       refine ei_i rfl rfl (wn_none rfl) (os_q (op_ld 3 sc_42 rfl rfl rfl)) rfl ?_; rintro _ _ ⟨rfl, rfl⟩; refine ⟨[_, _, _, _, _], rfl, ?_⟩
       refine et_1 (i := 13) (by kernel_rfl) ?_
       refine ei_i rfl rfl (wn_none rfl) (os_pull4 (os_append (E := encI64) rfl sB_42 zv_3 rfl rfl rfl (fun w s => (rds_row 3 rfl rfl) [] w s) rfl (by simp; omega) (by unfold maxLen; simp; omega))) rfl ?_; rintro _ _ ⟨ao152, ac152, rfl, rfl⟩; refine ⟨[_, _, _, _, _], rfl, ?_⟩
       refine e_q 14 rfl (wn_none rfl) (op_nilck rfl) ?_
       refine e_q 15 rfl (wn_none rfl) (op_field fld_116_3 rfl) ?_
       refine et_1 (i := 16) (by kernel_rfl) ?_
       refine ei_iN rfl rfl (wn_none rfl) (os_pull4 (os_store (v := .slice _ _ _) sc_42 rfl rfl rfl rfl (Free.zero _) rfl)) ?_; rintro _ _ ⟨rfl, rfl⟩; refine ⟨[_, _, _, _, _], rfl, ?_⟩
       refine e_q 17 rfl (wn_none rfl) (op_nilck rfl) ?_
       refine e_q 18 rfl (wn_none rfl) (op_field fld_116_4 rfl) ?_
       refine et_1 (i := 19) (by kernel_rfl) ?_
       refine ei_iN rfl rfl (wn_none rfl) (os_store (v := .slice _ _ _) sc_42 rfl rfl rfl rfl (Free.zero _) rfl) ?_; rintro _ _ ⟨rfl, rfl⟩; refine ⟨[_, _, _, _, _], rfl, ?_⟩
       refine et_nil (by kernel_rfl) ?_
       refine px_blockN ?_
       refine px_loop2 (i + 1, e1, g1, e2, g2, ao151, ac151, ao152, ac152) (by dsimp only; omega) (by (try dsimp only); omega) trivial ?_ (fun _ s => (by (try dsimp only); simp only [← rep_snoc be, ← rep_snoc lf]; exact ((((((((s.del 4).del 3).pull 5).pull 2).pull 3).pull 5).pull 5).pull 5)))
       repeat (first | exact kept_over | refine kept_upd rfl ?_ | refine kept_overS (by decide) ?_)
      ·
       refine ei_i rfl rfl (wn_none rfl) (os_q (op_ld 2 sc_42 rfl rfl rfl)) rfl ?_; rintro _ _ ⟨rfl, rfl⟩; refine ⟨[_, _, _, _, _], rfl, ?_⟩
       refine et_1 (i := 7) (by kernel_rfl) ?_
       refine ei_i rfl rfl (wn_none rfl) (os_pull3 (os_append (E := encI64) rfl sB_42 zv_3 rfl rfl rfl (fun w s => (rds_row 1 rfl rfl) [] w s) rfl (by simp; omega) (by unfold maxLen; simp; omega))) rfl ?_; rintro _ _ ⟨ao153, ac153, rfl, rfl⟩; refine ⟨[_, _, _, _, _], rfl, ?_⟩
       refine et_1 (i := 13) (by kernel_rfl) ?_
       refine ei_i rfl rfl (wn_none rfl) (os_pull4 (os_append (E := encI64) rfl sB_42 zv_3 rfl rfl rfl (fun w s => (rds_row 3 rfl rfl) [] w s) rfl (by simp; omega) (by unfold maxLen; simp; omega))) rfl ?_; rintro _ _ ⟨ao154, ac154, rfl, rfl⟩; refine ⟨[_, _, _, _, _], rfl, ?_⟩
       refine e_q 14 rfl (wn_none rfl) (op_nilck rfl) ?_
       refine e_q 15 rfl (wn_none rfl) (op_field fld_116_3 rfl) ?_
       refine et_1 (i := 16) (by kernel_rfl) ?_
       refine ei_iN rfl rfl (wn_none rfl) (os_pull4 (os_store (v := .slice _ _ _) sc_42 rfl rfl rfl rfl (Free.zero _) rfl)) ?_; rintro _ _ ⟨rfl, rfl⟩; refine ⟨[_, _, _, _, _], rfl, ?_⟩
       refine e_q 17 rfl (wn_none rfl) (op_nilck rfl) ?_
       refine e_q 18 rfl (wn_none rfl) (op_field fld_116_4 rfl) ?_
       refine et_1 (i := 19) (by kernel_rfl) ?_
       refine ei_iN rfl rfl (wn_none rfl) (os_store (v := .slice _ _ _) sc_42 rfl rfl rfl rfl (Free.zero _) rfl) ?_; rintro _ _ ⟨rfl, rfl⟩; refine ⟨[_, _, _, _, _], rfl, ?_⟩
       refine et_nil (by kernel_rfl) ?_
       refine px_blockN ?_
       refine px_loop2 (i + 1, e1, g1, e2, g2, ao153, ac153, ao154, ac154) (by dsimp only; omega) (by (try dsimp only); omega) trivial ?_ (fun _ s => (by (try dsimp only); simp only [← rep_snoc be, ← rep_snoc lf]; exact ((((((((s.del 4).del 3).pull 5).pull 2).pull 3).pull 5).pull 5).pull 5)))
       repeat (first | exact kept_over | refine kept_upd rfl ?_ | refine kept_overS (by decide) ?_)
     ·
      refine ei_i rfl rfl (wn_none rfl) (os_q (op_ld 1 sc_42 rfl rfl rfl)) rfl ?_; rintro _ _ ⟨rfl, rfl⟩; refine ⟨[_, _, _, _], rfl, ?_⟩
      refine et_1 (i := 6) (by kernel_rfl) ?_
      refine ei_i rfl rfl (wn_none rfl) (os_bslice (E := encI64) [_] (ys := [_]) sB_42 zv_3 rfl rfl rfl rfl (by decide)) rfl ?_; rintro _ _ ⟨ao155, rfl, rfl⟩; refine ⟨[_, _, _, _, _], rfl, ?_⟩
      refine et_1 (i := 7) (by kernel_rfl) ?_
      refine ei_i rfl rfl (wn_none rfl) (os_pull3 (os_append (E := encI64) rfl sB_42 zv_3 rfl rfl rfl (fun w s => (rds_row 1 rfl rfl) [] w s) rfl (by simp; omega) (by unfold maxLen; simp; omega))) rfl ?_; rintro _ _ ⟨ao156, ac156, rfl, rfl⟩; refine ⟨[_, _, _, _, _], rfl, ?_⟩
      refine et_1 (i := 13) (by kernel_rfl) ?_
      refine ei_i rfl rfl (wn_none rfl) (os_pull4 (os_append (E := encI64) rfl sB_42 zv_3 rfl rfl rfl (fun w s => (rds_row 3 rfl rfl) [] w s) rfl (by simp; omega) (by unfold maxLen; simp; omega))) rfl ?_; rintro _ _ ⟨ao157, ac157, rfl, rfl⟩; refine ⟨[_, _, _, _, _], rfl, ?_⟩
      refine e_q 14 rfl (wn_none rfl) (op_nilck rfl) ?_
      refine e_q 15 rfl (wn_none rfl) (op_field fld_116_3 rfl) ?_
      refine et_1 (i := 16) (by kernel_rfl) ?_
      refine ei_iN rfl rfl (wn_none rfl) (os_pull4 (os_store (v := .slice _ _ _) sc_42 rfl rfl rfl rfl (Free.zero _) rfl)) ?_; rintro _ _ ⟨rfl, rfl⟩; refine ⟨[_, _, _, _, _], rfl, ?_⟩
      refine e_q 17 rfl (wn_none rfl) (op_nilck rfl) ?_
      refine e_q 18 rfl (wn_none rfl) (op_field fld_116_4 rfl) ?_
      refine et_1 (i := 19) (by kernel_rfl) ?_
      refine ei_iN rfl rfl (wn_none rfl) (os_store (v := .slice _ _ _) sc_42 rfl rfl rfl rfl (Free.zero _) rfl) ?_; rintro _ _ ⟨rfl, rfl⟩; refine ⟨[_, _, _, _, _], rfl, ?_⟩
      refine et_nil (by kernel_rfl) ?_
      refine px_blockN ?_
      refine px_loop2 (i + 1, e1, g1, e2, g2, ao156, ac156, ao157, ac157) (by dsimp only; omega) (by (try dsimp only); omega) trivial ?_ (fun _ s => (by (try dsimp only); simp only [← rep_snoc be, ← rep_snoc lf]; exact ((((((((s.del 4).del 3).pull 5).pull 2).pull 3).pull 5).pull 5).pull 5)))
      repeat (first | exact kept_over | refine kept_upd rfl ?_ | refine kept_overS (by decide) ?_)
   ·
    refine ei_i rfl rfl (wn_none rfl) (os_bslice (E := encI64) [_] (ys := [_]) sB_42 zv_3 rfl rfl rfl rfl (by decide)) rfl ?_; rintro _ _ ⟨ao158, rfl, rfl⟩; refine ⟨[_, _, _, _], rfl, ?_⟩
    refine et_3 (i1 := 5) (i2 := 11) (i3 := 12) (by kernel_rfl) ?_ ?_ ?_
    ·
     refine ei_i rfl rfl (wn_none rfl) (os_q (op_ld 1 sc_42 rfl rfl rfl)) rfl ?_; rintro _ _ ⟨rfl, rfl⟩; refine ⟨[_, _, _, _], rfl, ?_⟩
     refine et_3 (i1 := 7) (i2 := 11) (i3 := 12) (by kernel_rfl) ?_ ?_ ?_
     ·
      refine ei_i rfl rfl (wn_none rfl) (os_pull2 (os_append (E := encI64) rfl sB_42 zv_3 rfl rfl rfl (fun w s => (rds_row 1 rfl rfl) [] w s) rfl (by simp; omega) (by unfold maxLen; simp; omega))) rfl ?_; rintro _ _ ⟨ao159, ac159, rfl, rfl⟩; refine ⟨[_, _, _, _], rfl, ?_⟩
      refine et_2 (i1 := 11) (i2 := 12) (by kernel_rfl) ?_ ?_
      ·
       refine ei_i rfl rfl (wn_none rfl) (os_q (op_ld 2 sc_42 rfl rfl rfl)) rfl ?_; rintro _ _ ⟨rfl, rfl⟩; refine ⟨[_, _, _, _], rfl, ?_⟩
       refine et_1 (i := 12) (by kernel_rfl) ?_
       refine ei_i rfl rfl (wn_none rfl) (os_bslice (E := encI64) [_] (ys := [_]) sB_42 zv_3 rfl rfl rfl rfl (by decide)) rfl ?_; rintro _ _ ⟨ao160, rfl, rfl⟩; refine ⟨[_, _, _, _, _], rfl, ?_⟩
       refine et_1 (i := 13) (by kernel_rfl) ?_
       refine ei_i rfl rfl (wn_none rfl) (os_pull4 (os_append (E := encI64) rfl sB_42 zv_3 rfl rfl rfl (fun w s => (rds_row 1 rfl rfl) [] w s) rfl (by simp; omega) (by unfold maxLen; simp; omega))) rfl ?_; rintro _ _ ⟨ao161, ac161, rfl, rfl⟩; refine ⟨[_, _, _, _, _], rfl, ?_⟩
       refine e_q 14 rfl (wn_none rfl) (op_nilck rfl) ?_
       refine e_q 15 rfl (wn_none rfl) (op_field fld_116_3 rfl) ?_
       refine et_1 (i := 16) (by kernel_rfl) ?_
       refine ei_iN rfl rfl (wn_none rfl) (os_pull4 (os_store (v := .slice _ _ _) sc_42 rfl rfl rfl rfl (Free.zero _) rfl)) ?_; rintro _ _ ⟨rfl, rfl⟩; refine ⟨[_, _, _, _, _], rfl, ?_⟩
       refine e_q 17 rfl (wn_none rfl) (op_nilck rfl) ?_
       refine e_q 18 rfl (wn_none rfl) (op_field fld_116_4 rfl) ?_
       refine et_1 (i := 19) (by kernel_rfl) ?_
       refine ei_iN rfl rfl (wn_none rfl) (os_store (v := .slice _ _ _) sc_42 rfl rfl rfl rfl (Free.zero _) rfl) ?_; rintro _ _ ⟨rfl, rfl⟩; refine ⟨[_, _, _, _, _], rfl, ?_⟩
       refine et_nil (by kernel_rfl) ?_
       refine px_blockN ?_
       refine px_loop2 (i + 1, e1, g1, e2, g2, ao159, ac159, ao161, ac161) (by dsimp only; omega) (by (try dsimp only); omega) trivial ?_ (fun _ s => (by (try dsimp only); simp only [← rep_snoc be, ← rep_snoc lf]; exact ((((((((s.del 4).del 2).pull 5).pull 2).pull 3).pull 5).pull 5).pull 5)))
       repeat (first | exact kept_over | refine kept_upd rfl ?_ | refine kept_overS (by decide) ?_)
      ·
       refine ei_i rfl rfl (wn_none rfl) (os_bslice (E := encI64) [_] (ys := [_]) sB_42 zv_3 rfl rfl rfl rfl (by decide)) rfl ?_; rintro _ _ ⟨ao162, rfl, rfl⟩; refine ⟨[_, _, _, _, _], rfl, ?_⟩
       refine et_1 (i := 11) (by kernel_rfl) ?_
       refine ei_i rfl rfl (wn_none rfl) (os_q (op_ld 3 sc_42 rfl rfl rfl)) rfl ?_; rintro _ _ ⟨rfl, rfl⟩; refine ⟨[_, _, _, _, _], rfl, ?_⟩
       refine et_1 (i := 13) (by kernel_rfl) ?_
       refine ei_i rfl rfl (wn_none rfl) (os_pull4 (os_append (E := encI64) rfl sB_42 zv_3 rfl rfl rfl (fun w s => (rds_row 1 rfl rfl) [] w s) rfl (by simp; omega) (by unfold maxLen; simp; omega))) rfl ?_; rintro _ _ ⟨ao163, ac163, rfl, rfl⟩; refine ⟨[_, _, _, _, _], rfl, ?_⟩
       refine e_q 14 rfl (wn_none rfl) (op_nilck rfl) ?_
       refine e_q 15 rfl (wn_none rfl) (op_field fld_116_3 rfl) ?_
       refine et_1 (i := 16) (by kernel_rfl) ?_
       refine ei_iN rfl rfl (wn_none rfl) (os_pull4 (os_store (v := .slice _ _ _) sc_42 rfl rfl rfl rfl (Free.zero _) rfl)) ?_; rintro _ _ ⟨rfl, rfl⟩; refine ⟨[_, _, _, _, _], rfl, ?_⟩
       refine e_q 17 rfl (wn_none rfl) (op_nilck rfl) ?_
       refine e_q 18 rfl (wn_none rfl) (op_field fld_116_4 rfl) ?_
       refine et_1 (i := 19) (by kernel_rfl) ?_
       refine ei_iN rfl rfl (wn_none rfl) (os_store (v := .slice _ _ _) sc_42 rfl rfl rfl rfl (Free.zero _) rfl) ?_; rintro _ _ ⟨rfl, rfl⟩; refine ⟨[_, _, _, _, _], rfl, ?_⟩
       refine et_nil (by kernel_rfl) ?_
       refine px_blockN ?_
       refine px_loop2 (i + 1, e1, g1, e2, g2, ao159, ac159, ao163, ac163) (by dsimp only; omega) (by (try dsimp only); omega) trivial ?_ (fun _ s => (by (try dsimp only); simp only [← rep_snoc be, ← rep_snoc lf]; exact ((((((((s.del 4).del 2).pull 5).pull 2).pull 3).pull 5).pull 5).pull 5)))
       repeat (first | exact kept_over | refine kept_upd rfl ?_ | refine kept_overS (by decide) ?_)
     ·
      refine ei_i rfl rfl (wn_none rfl) (os_q (op_ld 1 sc_42 rfl rfl rfl)) rfl ?_; rintro _ _ ⟨rfl, rfl⟩; refine ⟨[_, _, _, _], rfl, ?_⟩
      refine et_2 (i1 := 7) (i2 := 12) (by kernel_rfl) ?_ ?_
      ·
       refine ei_i rfl rfl (wn_none rfl) (os_pull2 (os_append (E := encI64) rfl sB_42 zv_3 rfl rfl rfl (fun w s => (rds_row 1 rfl rfl) [] w s) rfl (by simp; omega) (by unfold maxLen; simp; omega))) rfl ?_; rintro _ _ ⟨ao164, ac164, rfl, rfl⟩; refine ⟨[_, _, _, _], rfl, ?_⟩
       refine et_1 (i := 12) (by kernel_rfl) ?_
       refine ei_i rfl rfl (wn_none rfl) (os_bslice (E := encI64) [_] (ys := [_]) sB_42 zv_3 rfl rfl rfl rfl (by decide)) rfl ?_; rintro _ _ ⟨ao165, rfl, rfl⟩; refine ⟨[_, _, _, _, _], rfl, ?_⟩
       refine et_1 (i := 13) (by kernel_rfl) ?_
       refine ei_i rfl rfl (wn_none rfl) (os_pull4 (os_append (E := encI64) rfl sB_42 zv_3 rfl rfl rfl (fun w s => (rds_row 1 rfl rfl) [] w s) rfl (by simp; omega) (by unfold maxLen; simp; omega))) rfl ?_; rintro _ _ ⟨ao166, ac166, rfl, rfl⟩; refine ⟨[_, _, _, _, _], rfl, ?_⟩
       refine e_q 14 rfl (wn_none rfl) (op_nilck rfl) ?_
       refine e_q 15 rfl (wn_none rfl) (op_field fld_116_3 rfl) ?_
       refine et_1 (i := 16) (by kernel_rfl) ?_
       refine ei_iN rfl rfl (wn_none rfl) (os_pull4 (os_store (v := .slice _ _ _) sc_42 rfl rfl rfl rfl (Free.zero _) rfl)) ?_; rintro _ _ ⟨rfl, rfl⟩; refine ⟨[_, _, _, _, _], rfl, ?_⟩
       refine e_q 17 rfl (wn_none rfl) (op_nilck rfl) ?_
       refine e_q 18 rfl (wn_none rfl) (op_field fld_116_4 rfl) ?_
       refine et_1 (i := 19) (by kernel_rfl) ?_
       refine ei_iN rfl rfl (wn_none rfl) (os_store (v := .slice _ _ _) sc_42 rfl rfl rfl rfl (Free.zero _) rfl) ?_; rintro _ _ ⟨rfl, rfl⟩; refine ⟨[_, _, _, _, _], rfl, ?_⟩
       refine et_nil (by kernel_rfl) ?_
       refine px_blockN ?_
       refine px_loop2 (i + 1, e1, g1, e2, g2, ao164, ac164, ao166, ac166) (by dsimp only; omega) (by (try dsimp only); omega) trivial ?_ (fun _ s => (by (try dsimp only); simp only [← rep_snoc be, ← rep_snoc lf]; exact ((((((((s.del 4).del 2).pull 5).pull 2).pull 3).pull 5).pull 5).pull 5)))
       repeat (first | exact kept_over | refine kept_upd rfl ?_ | refine kept_overS (by decide) ?_)
      ·
       refine ei_i rfl rfl (wn_none rfl) (os_bslice (E := encI64) [_] (ys := [_]) sB_42 zv_3 rfl rfl rfl rfl (by decide)) rfl ?_; rintro _ _ ⟨ao167, rfl, rfl⟩; refine ⟨[_, _, _, _, _], rfl, ?_⟩
       refine et_1 (i := 7) (by kernel_rfl) ?_
       refine ei_i rfl rfl (wn_none rfl) (os_pull3 (os_append (E := encI64) rfl sB_42 zv_3 rfl rfl rfl (fun w s => (rds_row 2 rfl rfl) [] w s) rfl (by simp; omega) (by unfold maxLen; simp; omega))) rfl ?_; rintro _ _ ⟨ao168, ac168, rfl, rfl⟩; refine ⟨[_, _, _, _, _], rfl, ?_⟩
       refine et_1 (i := 13) (by kernel_rfl) ?_
       refine ei_i rfl rfl (wn_none rfl) (os_pull4 (os_append (E := encI64) rfl sB_42 zv_3 rfl rfl rfl (fun w s => (rds_row 2 rfl rfl) [] w s) rfl (by simp; omega) (by unfold maxLen; simp; omega))) rfl ?_; rintro _ _ ⟨ao169, ac169, rfl, rfl⟩; refine ⟨[_, _, _, _, _], rfl, ?_⟩
       refine e_q 14 rfl (wn_none rfl) (op_nilck rfl) ?_
       refine e_q 15 rfl (wn_none rfl) (op_field fld_116_3 rfl) ?_
       refine et_1 (i := 16) (by kernel_rfl) ?_
       refine ei_iN rfl rfl (wn_none rfl) (os_pull4 (os_store (v := .slice _ _ _) sc_42 rfl rfl rfl rfl (Free.zero _) rfl)) ?_; rintro _ _ ⟨rfl, rfl⟩; refine ⟨[_, _, _, _, _], rfl, ?_⟩
       refine e_q 17 rfl (wn_none rfl) (op_nilck rfl) ?_
       refine e_q 18 rfl (wn_none rfl) (op_field fld_116_4 rfl) ?_
       refine et_1 (i := 19) (by kernel_rfl) ?_
       refine ei_iN rfl rfl (wn_none rfl) (os_store (v := .slice _ _ _) sc_42 rfl rfl rfl rfl (Free.zero _) rfl) ?_; rintro _ _ ⟨rfl, rfl⟩; refine ⟨[_, _, _, _, _], rfl, ?_⟩
       refine et_nil (by kernel_rfl) ?_
       refine px_blockN ?_
       refine px_loop2 (i + 1, e1, g1, e2, g2, ao168, ac168, ao169, ac169) (by dsimp only; omega) (by (try dsimp only); omega) trivial ?_ (fun _ s => (by (try dsimp only); simp only [← rep_snoc be, ← rep_snoc lf]; exact ((((((((s.del 4).del 3).pull 5).pull 2).pull 3).pull 5).pull 5).pull 5)))
       repeat (first | exact kept_over | refine kept_upd rfl ?_ | refine kept_overS (by decide) ?_)
     ·
      refine ei_i rfl rfl (wn_none rfl) (os_bslice (E := encI64) [_] (ys := [_]) sB_42 zv_3 rfl rfl rfl rfl (by decide)) rfl ?_; rintro _ _ ⟨ao170, rfl, rfl⟩; refine ⟨[_, _, _, _, _], rfl, ?_⟩
      refine et_2 (i1 := 7) (i2 := 11) (by kernel_rfl) ?_ ?_
      ·
       refine ei_i rfl rfl (wn_none rfl) (os_pull3 (os_append (E := encI64) rfl sB_42 zv_3 rfl rfl rfl (fun w s => (rds_row 2 rfl rfl) [] w s) rfl (by simp; omega) (by unfold maxLen; simp; omega))) rfl ?_; rintro _ _ ⟨ao171, ac171, rfl, rfl⟩; refine ⟨[_, _, _, _, _], rfl, ?_⟩
       refine et_1 (i := 11) (by kernel_rfl) ?_
       refine ei_i rfl rfl (wn_none rfl) (os_q (op_ld 3 sc_42 rfl rfl rfl)) rfl ?_; rintro _ _ ⟨rfl, rfl⟩; refine ⟨[_, _, _, _, _], rfl, ?_⟩
       refine et_1 (i := 13) (by kernel_rfl) ?_
       refine ei_i rfl rfl (wn_none rfl) (os_pull4 (os_append (E := encI64) rfl sB_42 zv_3 rfl rfl rfl (fun w s => (rds_row 2 rfl rfl) [] w s) rfl (by simp; omega) (by unfold maxLen; simp; omega))) rfl ?_; rintro _ _ ⟨ao172, ac172, rfl, rfl⟩; refine ⟨[_, _, _, _, _], rfl, ?_⟩
       refine e_q 14 rfl (wn_none rfl) (op_nilck rfl) ?_
       refine e_q 15 rfl (wn_none rfl) (op_field fld_116_3 rfl) ?_
       refine et_1 (i := 16) (by kernel_rfl) ?_
       refine ei_iN rfl rfl (wn_none rfl) (os_pull4 (os_store (v := .slice _ _ _) sc_42 rfl rfl rfl rfl (Free.zero _) rfl)) ?_; rintro _ _ ⟨rfl, rfl⟩; refine ⟨[_, _, _, _, _], rfl, ?_⟩
       refine e_q 17 rfl (wn_none rfl) (op_nilck rfl) ?_
       refine e_q 18 rfl (wn_none rfl) (op_field fld_116_4 rfl) ?_
       refine et_1 (i := 19) (by kernel_rfl) ?_
       refine ei_iN rfl rfl (wn_none rfl) (os_store (v := .slice _ _ _) sc_42 rfl rfl rfl rfl (Free.zero _) rfl) ?_; rintro _ _ ⟨rfl, rfl⟩; refine ⟨[_, _, _, _, _], rfl, ?_⟩
       refine et_nil (by kernel_rfl) ?_
       refine px_blockN ?_
       refine px_loop2 (i + 1, e1, g1, e2, g2, ao171, ac171, ao172, ac172) (by dsimp only; omega) (by (try dsimp only); omega) trivial ?_ (fun _ s => (by (try dsimp only); simp only [← rep_snoc be, ← rep_snoc lf]; exact ((((((((s.del 4).del 3).pull 5).pull 2).pull 3).pull 5).pull 5).pull 5)))
       repeat (first | exact kept_over | refine kept_upd rfl ?_ | refine kept_overS (by decide) ?_)
      ·
       refine ei_i rfl rfl (wn_none rfl) (os_q (op_ld 2 sc_42 rfl rfl rfl)) rfl ?_; rintro _ _ ⟨rfl, rfl⟩; refine ⟨[_, _, _, _, _], rfl, ?_⟩
       refine et_1 (i := 7) (by kernel_rfl) ?_
       refine ei_i rfl rfl (wn_none rfl) (os_pull3 (os_append (E := encI64) rfl sB_42 zv_3 rfl rfl rfl (fun w s => (rds_row 2 rfl rfl) [] w s) rfl (by simp; omega) (by unfold maxLen; simp; omega))) rfl ?_; rintro _ _ ⟨ao173, ac173, rfl, rfl⟩; refine ⟨[_, _, _, _, _], rfl, ?_⟩
       refine et_1 (i := 13) (by kernel_rfl) ?_
       refine ei_i rfl rfl (wn_none rfl) (os_pull4 (os_append (E := encI64) rfl sB_42 zv_3 rfl rfl rfl (fun w s => (rds_row 2 rfl rfl) [] w s) rfl (by simp; omega) (by unfold maxLen; simp; omega))) rfl ?_; rintro _ _ ⟨ao174, ac174, rfl, rfl⟩; refine ⟨[_, _, _, _, _], rfl, ?_⟩
       refine e_q 14 rfl (wn_none rfl) (op_nilck rfl) ?_
       refine e_q 15 rfl (wn_none rfl) (op_field fld_116_3 rfl) ?_
       refine et_1 (i := 16) (by kernel_rfl) ?_
       refine ei_iN rfl rfl (wn_none rfl) (os_pull4 (os_store (v := .slice _ _ _) sc_42 rfl rfl rfl rfl (Free.zero _) rfl)) ?_; rintro _ _ ⟨rfl, rfl⟩; refine ⟨[_, _, _, _, _], rfl, ?_⟩
       refine e_q 17 rfl (wn_none rfl) (op_nilck rfl) ?_
       refine e_q 18 rfl (wn_none rfl) (op_field fld_116_4 rfl) ?_
       refine et_1 (i := 19) (by kernel_rfl) ?_
       refine ei_iN rfl rfl (wn_none rfl) (os_store (v := .slice _ _ _) sc_42 rfl rfl rfl rfl (Free.zero _) rfl) ?_; rintro _ _ ⟨rfl, rfl⟩; refine ⟨[_, _, _, _, _], rfl, ?_⟩
       refine et_nil (by kernel_rfl) ?_
       refine px_blockN ?_
       refine px_loop2 (i + 1, e1, g1, e2, g2, ao173, ac173, ao174, ac174) (by dsimp only; omega) (by (try dsimp only); omega) trivial ?_ (fun _ s => (by (try dsimp only); simp only [← rep_snoc be, ← rep_snoc lf]; exact ((((((((s.del 4).del 3).pull 5).pull 2).pull 3).pull 5).pull 5).pull 5)))
       repeat (first | exact kept_over | refine kept_upd rfl ?_ | refine kept_overS (by decide) ?_)
    ·
     refine ei_i rfl rfl (wn_none rfl) (os_q (op_ld 1 sc_42 rfl rfl rfl)) rfl ?_; rintro _ _ ⟨rfl, rfl⟩; refine ⟨[_, _, _, _], rfl, ?_⟩
     refine et_2 (i1 := 5) (i2 := 12) (by kernel_rfl) ?_ ?_
     ·
      refine ei_i rfl rfl (wn_none rfl) (os_q (op_ld 1 sc_42 rfl rfl rfl)) rfl ?_; rintro _ _ ⟨rfl, rfl⟩; refine ⟨[_, _, _, _], rfl, ?_⟩
      refine et_2 (i1 := 7) (i2 := 12) (by kernel_rfl) ?_ ?_
      ·
       refine ei_i rfl rfl (wn_none rfl) (os_pull2 (os_append (E := encI64) rfl sB_42 zv_3 rfl rfl rfl (fun w s => (rds_row 1 rfl rfl) [] w s) rfl (by simp; omega) (by unfold maxLen; simp; omega))) rfl ?_; rintro _ _ ⟨ao175, ac175, rfl, rfl⟩; refine ⟨[_, _, _, _], rfl, ?_⟩
       refine et_1 (i := 12) (by kernel_rfl) ?_
       refine ei_i rfl rfl (wn_none rfl) (os_bslice (E := encI64) [_] (ys := [_]) sB_42 zv_3 rfl rfl rfl rfl (by decide)) rfl ?_; rintro _ _ ⟨ao176, rfl, rfl⟩; refine ⟨[_, _, _, _, _], rfl, ?_⟩
       refine et_1 (i := 13) (by kernel_rfl) ?_
       refine ei_i rfl rfl (wn_none rfl) (os_pull4 (os_append (E := encI64) rfl sB_42 zv_3 rfl rfl rfl (fun w s => (rds_row 1 rfl rfl) [] w s) rfl (by simp; omega) (by unfold maxLen; simp; omega))) rfl ?_; rintro _ _ ⟨ao177, ac177, rfl, rfl⟩; refine ⟨[_, _, _, _, _], rfl, ?_⟩
       refine e_q 14 rfl (wn_none rfl) (op_nilck rfl) ?_
       refine e_q 15 rfl (wn_none rfl) (op_field fld_116_3 rfl) ?_
       refine et_1 (i := 16) (by kernel_rfl) ?_
       refine ei_iN rfl rfl (wn_none rfl) (os_pull4 (os_store (v := .slice _ _ _) sc_42 rfl rfl rfl rfl (Free.zero _) rfl)) ?_; rintro _ _ ⟨rfl, rfl⟩; refine ⟨[_, _, _, _, _], rfl, ?_⟩
       refine e_q 17 rfl (wn_none rfl) (op_nilck rfl) ?_
       refine e_q 18 rfl (wn_none rfl) (op_field fld_116_4 rfl) ?_
       refine et_1 (i := 19) (by kernel_rfl) ?_
       refine ei_iN rfl rfl (wn_none rfl) (os_store (v := .slice _ _ _) sc_42 rfl rfl rfl rfl (Free.zero _) rfl) ?_; rintro _ _ ⟨rfl, rfl⟩; refine ⟨[_, _, _, _, _], rfl, ?_⟩
       refine et_nil (by kernel_rfl) ?_
       refine px_blockN ?_
       refine px_loop2 (i + 1, e1, g1, e2, g2, ao175, ac175, ao177, ac177) (by dsimp only; omega) (by (try dsimp only); omega) trivial ?_ (fun _ s => (by (try dsimp only); simp only [← rep_snoc be, ← rep_snoc lf]; exact ((((((((s.del 4).del 2).pull 5).pull 2).pull 3).pull 5).pull 5).pull 5)))
       repeat (first | exact kept_over | refine kept_upd rfl ?_ | refine kept_overS (by decide) ?_)
      ·
       refine ei_i rfl rfl (wn_none rfl) (os_bslice (E := encI64) [_] (ys := [_]) sB_42 zv_3 rfl rfl rfl rfl (by decide)) rfl ?_; rintro _ _ ⟨ao178, rfl, rfl⟩; refine ⟨[_, _, _, _, _], rfl, ?_⟩
       refine et_1 (i := 7) (by kernel_rfl) ?_
       refine ei_i rfl rfl (wn_none rfl) (os_pull3 (os_append (E := encI64) rfl sB_42 zv_3 rfl rfl rfl (fun w s => (rds_row 2 rfl rfl) [] w s) rfl (by simp; omega) (by unfold maxLen; simp; omega))) rfl ?_; rintro _ _ ⟨ao179, ac179, rfl, rfl⟩; refine ⟨[_, _, _, _, _], rfl, ?_⟩
       refine et_1 (i := 13) (by kernel_rfl) ?_
       refine ei_i rfl rfl (wn_none rfl) (os_pull4 (os_append (E := encI64) rfl sB_42 zv_3 rfl rfl rfl (fun w s => (rds_row 2 rfl rfl) [] w s) rfl (by simp; omega) (by unfold maxLen; simp; omega))) rfl ?_; rintro _ _ ⟨ao180, ac180, rfl, rfl⟩; refine ⟨[_, _, _, _, _], rfl, ?_⟩
       refine e_q 14 rfl (wn_none rfl) (op_nilck rfl) ?_
       refine e_q 15 rfl (wn_none rfl) (op_field fld_116_3 rfl) ?_
       refine et_1 (i := 16) (by kernel_rfl) ?_
       refine ei_iN rfl rfl (wn_none rfl) (os_pull4 (os_store (v := .slice _ _ _) sc_42 rfl rfl rfl rfl (Free.zero _) rfl)) ?_; rintro _ _ ⟨rfl, rfl⟩; refine ⟨[_, _, _, _, _], rfl, ?_⟩
       refine e_q 17 rfl (wn_none rfl) (op_nilck rfl) ?_
       refine e_q 18 rfl (wn_none rfl) (op_field fld_116_4 rfl) ?_
       refine et_1 (i := 19) (by kernel_rfl) ?_
       refine ei_iN rfl rfl (wn_none rfl) (os_store (v := .slice _ _ _) sc_42 rfl rfl rfl rfl (Free.zero _) rfl) ?_; rintro _ _ ⟨rfl, rfl⟩; refine ⟨[_, _, _, _, _], rfl, ?_⟩
       refine et_nil (by kernel_rfl) ?_
       refine px_blockN ?_
       refine px_loop2 (i + 1, e1, g1, e2, g2, ao179, ac179, ao180, ac180) (by dsimp only; omega) (by (try dsimp only); omega) trivial ?_ (fun _ s => (by (try dsimp only); simp only [← rep_snoc be, ← rep_snoc lf]; exact ((((((((s.del 4).del 3).pull 5).pull 2).pull 3).pull 5).pull 5).pull 5)))
       repeat (first | exact kept_over | refine kept_upd rfl ?_ | refine kept_overS (by decide) ?_)
     ·
      refine ei_i rfl rfl (wn_none rfl) (os_bslice (E := encI64) [_] (ys := [_]) sB_42 zv_3 rfl rfl rfl rfl (by decide)) rfl ?_; rintro _ _ ⟨ao181, rfl, rfl⟩; refine ⟨[_, _, _, _, _], rfl, ?_⟩
      refine et_1 (i := 5) (by kernel_rfl) ?_
      refine ei_i rfl rfl (wn_none rfl) (os_q (op_ld 2 sc_42 rfl rfl rfl)) rfl ?_; rintro _ _ ⟨rfl, rfl⟩; refine ⟨[_, _, _, _, _], rfl, ?_⟩
      refine et_1 (i := 7) (by kernel_rfl) ?_
      refine ei_i rfl rfl (wn_none rfl) (os_pull3 (os_append (E := encI64) rfl sB_42 zv_3 rfl rfl rfl (fun w s => (rds_row 2 rfl rfl) [] w s) rfl (by simp; omega) (by unfold maxLen; simp; omega))) rfl ?_; rintro _ _ ⟨ao182, ac182, rfl, rfl⟩; refine ⟨[_, _, _, _, _], rfl, ?_⟩
      refine et_1 (i := 13) (by kernel_rfl) ?_
      refine ei_i rfl rfl (wn_none rfl) (os_pull4 (os_append (E := encI64) rfl sB_42 zv_3 rfl rfl rfl (fun w s => (rds_row 2 rfl rfl) [] w s) rfl (by simp; omega) (by unfold maxLen; simp; omega))) rfl ?_; rintro _ _ ⟨ao183, ac183, rfl, rfl⟩; refine ⟨[_, _, _, _, _], rfl, ?_⟩
      refine e_q 14 rfl (wn_none rfl) (op_nilck rfl) ?_
      refine e_q 15 rfl (wn_none rfl) (op_field fld_116_3 rfl) ?_
      refine et_1 (i := 16) (by kernel_rfl) ?_
      refine ei_iN rfl rfl (wn_none rfl) (os_pull4 (os_store (v := .slice _ _ _) sc_42 rfl rfl rfl rfl (Free.zero _) rfl)) ?_; rintro _ _ ⟨rfl, rfl⟩; refine ⟨[_, _, _, _, _], rfl, ?_⟩
      refine e_q 17 rfl (wn_none rfl) (op_nilck rfl) ?_
      refine e_q 18 rfl (wn_none rfl) (op_field fld_116_4 rfl) ?_
      refine et_1 (i := 19) (by kernel_rfl) ?_
      refine ei_iN rfl rfl (wn_none rfl) (os_store (v := .slice _ _ _) sc_42 rfl rfl rfl rfl (Free.zero _) rfl) ?_; rintro _ _ ⟨rfl, rfl⟩; refine ⟨[_, _, _, _, _], rfl, ?_⟩
      refine et_nil (by kernel_rfl) ?_
      refine px_blockN ?_
      refine px_loop2 (i + 1, e1, g1, e2, g2, ao182, ac182, ao183, ac183) (by dsimp only; omega) (by (try dsimp only); omega) trivial ?_ (fun _ s => (by (try dsimp only); simp only [← rep_snoc be, ← rep_snoc lf]; exact ((((((((s.del 4).del 3).pull 5).pull 2).pull 3).pull 5).pull 5).pull 5)))
      repeat (first | exact kept_over | refine kept_upd rfl ?_ | refine kept_overS (by decide) ?_)
    ·
     refine ei_i rfl rfl (wn_none rfl) (os_bslice (E := encI64) [_] (ys := [_]) sB_42 zv_3 rfl rfl rfl rfl (by decide)) rfl ?_; rintro _ _ ⟨ao184, rfl, rfl⟩; refine ⟨[_, _, _, _, _], rfl, ?_⟩
     refine et_2 (i1 := 5) (i2 := 11) (by kernel_rfl) ?_ ?_
     ·
      refine ei_i rfl rfl (wn_none rfl) (os_q (op_ld 2 sc_42 rfl rfl rfl)) rfl ?_; rintro _ _ ⟨rfl, rfl⟩; refine ⟨[_, _, _, _, _], rfl, ?_⟩
      refine et_2 (i1 := 7) (i2 := 11) (by kernel_rfl) ?_ ?_
      ·
       refine ei_i rfl rfl (wn_none rfl) (os_pull3 (os_append (E := encI64) rfl sB_42 zv_3 rfl rfl rfl (fun w s => (rds_row 2 rfl rfl) [] w s) rfl (by simp; omega) (by unfold maxLen; simp; omega))) rfl ?_; rintro _ _ ⟨ao185, ac185, rfl, rfl⟩; refine ⟨[_, _, _, _, _], rfl, ?_⟩
       refine et_1 (i := 11) (by kernel_rfl) ?_
       refine ei_i rfl rfl (wn_none rfl) (os_q (op_ld 3 sc_42 rfl rfl rfl)) rfl ?_; rintro _ _ ⟨rfl, rfl⟩; refine ⟨[_, _, _, _, _], rfl, ?_⟩
       refine et_1 (i := 13) (by kernel_rfl) ?_
       refine ei_i rfl rfl (wn_none rfl) (os_pull4 (os_append (E := encI64) rfl sB_42 zv_3 rfl rfl rfl (fun w s => (rds_row 2 rfl rfl) [] w s) rfl (by simp; omega) (by unfold maxLen; simp; omega))) rfl ?_; rintro _ _ ⟨ao186, ac186, rfl, rfl⟩; refine ⟨[_, _, _, _, _], rfl, ?_⟩
       refine e_q 14 rfl (wn_none rfl) (op_nilck rfl) ?_
       refine e_q 15 rfl (wn_none rfl) (op_field fld_116_3 rfl) ?_
       refine et_1 (i := 16) (by kernel_rfl) ?_
       refine ei_iN rfl rfl (wn_none rfl) (os_pull4 (os_store (v := .slice _ _ _) sc_42 rfl rfl rfl rfl (Free.zero _) rfl)) ?_; rintro _ _ ⟨rfl, rfl⟩; refine ⟨[_, _, _, _, _], rfl, ?_⟩
       refine e_q 17 rfl (wn_none rfl) (op_nilck rfl) ?_
       refine e_q 18 rfl (wn_none rfl) (op_field fld_116_4 rfl) ?_
       refine et_1 (i := 19) (by kernel_rfl) ?_
       refine ei_iN rfl rfl (wn_none rfl) (os_store (v := .slice _ _ _) sc_42 rfl rfl rfl rfl (Free.zero _) rfl) ?_; rintro _ _ ⟨rfl, rfl⟩; refine ⟨[_, _, _, _, _], rfl, ?_⟩
       refine et_nil (by kernel_rfl) ?_
       refine px_blockN ?_
       refine px_loop2 (i + 1, e1, g1, e2, g2, ao185, ac185, ao186, ac186) (by dsimp only; omega) (by (try dsimp only); omega) trivial ?_ (fun _ s => (by (try dsimp only); simp only [← rep_snoc be, ← rep_snoc lf]; exact ((((((((s.del 4).del 3).pull 5).pull 2).pull 3).pull 5).pull 5).pull 5)))
       repeat (first | exact kept_over | refine kept_upd rfl ?_ | refine kept_overS (by decide) ?_)
      ·
       refine ei_i rfl rfl (wn_none rfl) (os_q (op_ld 2 sc_42 rfl rfl rfl)) rfl ?_; rintro _ _ ⟨rfl, rfl⟩; refine ⟨[_, _, _, _, _], rfl, ?_⟩
       refine et_1 (i := 7) (by kernel_rfl) ?_
       refine ei_i rfl rfl (wn_none rfl) (os_pull3 (os_append (E := encI64) rfl sB_42 zv_3 rfl rfl rfl (fun w s => (rds_row 2 rfl rfl) [] w s) rfl (by simp; omega) (by unfold maxLen; simp; omega))) rfl ?_; rintro _ _ ⟨ao187, ac187, rfl, rfl⟩; refine ⟨[_, _, _, _, _], rfl, ?_⟩
       refine et_1 (i := 13) (by kernel_rfl) ?_
       refine ei_i rfl rfl (wn_none rfl) (os_pull4 (os_append (E := encI64) rfl sB_42 zv_3 rfl rfl rfl (fun w s => (rds_row 2 rfl rfl) [] w s) rfl (by simp; omega) (by unfold maxLen; simp; omega))) rfl ?_; rintro _ _ ⟨ao188, ac188, rfl, rfl⟩; refine ⟨[_, _, _, _, _], rfl, ?_⟩
       refine e_q 14 rfl (wn_none rfl) (op_nilck rfl) ?_
       refine e_q 15 rfl (wn_none rfl) (op_field fld_116_3 rfl) ?_
       refine et_1 (i := 16) (by kernel_rfl) ?_
       refine ei_iN rfl rfl (wn_none rfl) (os_pull4 (os_store (v := .slice _ _ _) sc_42 rfl rfl rfl rfl (Free.zero _) rfl)) ?_; rintro _ _ ⟨rfl, rfl⟩; refine ⟨[_, _, _, _, _], rfl, ?_⟩
       refine e_q 17 rfl (wn_none rfl) (op_nilck rfl) ?_
       refine e_q 18 rfl (wn_none rfl) (op_field fld_116_4 rfl) ?_
       refine et_1 (i := 19) (by kernel_rfl) ?_
       refine ei_iN rfl rfl (wn_none rfl) (os_store (v := .slice _ _ _) sc_42 rfl rfl rfl rfl (Free.zero _) rfl) ?_; rintro _ _ ⟨rfl, rfl⟩; refine ⟨[_, _, _, _, _], rfl, ?_⟩
       refine et_nil (by kernel_rfl) ?_
       refine px_blockN ?_
       refine px_loop2 (i + 1, e1, g1, e2, g2, ao187, ac187, ao188, ac188) (by dsimp only; omega) (by (try dsimp only); omega) trivial ?_ (fun _ s => (by (try dsimp only); simp only [← rep_snoc be, ← rep_snoc lf]; exact ((((((((s.del 4).del 3).pull 5).pull 2).pull 3).pull 5).pull 5).pull 5)))
       repeat (first | exact kept_over | refine kept_upd rfl ?_ | refine kept_overS (by decide) ?_)
     ·
      refine ei_i rfl rfl (wn_none rfl) (os_q (op_ld 2 sc_42 rfl rfl rfl)) rfl ?_; rintro _ _ ⟨rfl, rfl⟩; refine ⟨[_, _, _, _, _], rfl, ?_⟩
      refine et_1 (i := 5) (by kernel_rfl) ?_
      refine ei_i rfl rfl (wn_none rfl) (os_q (op_ld 2 sc_42 rfl rfl rfl)) rfl ?_; rintro _ _ ⟨rfl, rfl⟩; refine ⟨[_, _, _, _, _], rfl, ?_⟩
      refine et_1 (i := 7) (by kernel_rfl) ?_
      refine ei_i rfl rfl (wn_none rfl) (os_pull3 (os_append (E := encI64) rfl sB_42 zv_3 rfl rfl rfl (fun w s => (rds_row 2 rfl rfl) [] w s) rfl (by simp; omega) (by unfold maxLen; simp; omega))) rfl ?_; rintro _ _ ⟨ao189, ac189, rfl, rfl⟩; refine ⟨[_, _, _, _, _], rfl, ?_⟩
      refine et_1 (i := 13) (by kernel_rfl) ?_
      refine ei_i rfl rfl (wn_none rfl) (os_pull4 (os_append (E := encI64) rfl sB_42 zv_3 rfl rfl rfl (fun w s => (rds_row 2 rfl rfl) [] w s) rfl (by simp; omega) (by unfold maxLen; simp; omega))) rfl ?_; rintro _ _ ⟨ao190, ac190, rfl, rfl⟩; refine ⟨[_, _, _, _, _], rfl, ?_⟩
      refine e_q 14 rfl (wn_none rfl) (op_nilck rfl) ?_
      refine e_q 15 rfl (wn_none rfl) (op_field fld_116_3 rfl) ?_
      refine et_1 (i := 16) (by kernel_rfl) ?_
      refine ei_iN rfl rfl (wn_none rfl) (os_pull4 (os_store (v := .slice _ _ _) sc_42 rfl rfl rfl rfl (Free.zero _) rfl)) ?_; rintro _ _ ⟨rfl, rfl⟩; refine ⟨[_, _, _, _, _], rfl, ?_⟩
      refine e_q 17 rfl (wn_none rfl) (op_nilck rfl) ?_
      refine e_q 18 rfl (wn_none rfl) (op_field fld_116_4 rfl) ?_
      refine et_1 (i := 19) (by kernel_rfl) ?_
      refine ei_iN rfl rfl (wn_none rfl) (os_store (v := .slice _ _ _) sc_42 rfl rfl rfl rfl (Free.zero _) rfl) ?_; rintro _ _ ⟨rfl, rfl⟩; refine ⟨[_, _, _, _, _], rfl, ?_⟩
      refine et_nil (by kernel_rfl) ?_
      refine px_blockN ?_
      refine px_loop2 (i + 1, e1, g1, e2, g2, ao189, ac189, ao190, ac190) (by dsimp only; omega) (by (try dsimp only); omega) trivial ?_ (fun _ s => (by (try dsimp only); simp only [← rep_snoc be, ← rep_snoc lf]; exact ((((((((s.del 4).del 3).pull 5).pull 2).pull 3).pull 5).pull 5).pull 5)))
      repeat (first | exact kept_over | refine kept_upd rfl ?_ | refine kept_overS (by decide) ?_)
   ·
    refine ei_i rfl rfl (wn_none rfl) (os_q (op_ld 0 sc_42 rfl rfl rfl)) rfl ?_; rintro _ _ ⟨rfl, rfl⟩; refine ⟨[_, _, _], rfl, ?_⟩
    refine et_3 (i1 := 5) (i2 := 6) (i3 := 12) (by kernel_rfl) ?_ ?_ ?_
    ·
     refine ei_i rfl rfl (wn_none rfl) (os_q (op_ld 0 sc_42 rfl rfl rfl)) rfl ?_; rintro _ _ ⟨rfl, rfl⟩; refine ⟨[_, _, _], rfl, ?_⟩
     refine et_2 (i1 := 6) (i2 := 12) (by kernel_rfl) ?_ ?_
     ·
      refine ei_i rfl rfl (wn_none rfl) (os_bslice (E := encI64) [_] (ys := [_]) sB_42 zv_3 rfl rfl rfl rfl (by decide)) rfl ?_; rintro _ _ ⟨ao191, rfl, rfl⟩; refine ⟨[_, _, _, _], rfl, ?_⟩
      refine et_2 (i1 := 7) (i2 := 12) (by kernel_rfl) ?_ ?_
      ·
       refine ei_i rfl rfl (wn_none rfl) (os_pull2 (os_append (E := encI64) rfl sB_42 zv_3 rfl rfl rfl (fun w s => (rds_row 1 rfl rfl) [] w s) rfl (by simp; omega) (by unfold maxLen; simp; omega))) rfl ?_; rintro _ _ ⟨ao192, ac192, rfl, rfl⟩; refine ⟨[_, _, _, _], rfl, ?_⟩
       refine et_1 (i := 12) (by kernel_rfl) ?_
       refine ei_i rfl rfl (wn_none rfl) (os_bslice (E := encI64) [_] (ys := [_]) sB_42 zv_3 rfl rfl rfl rfl (by decide)) rfl ?_; rintro _ _ ⟨ao193, rfl, rfl⟩; refine ⟨[_, _, _, _, _], rfl, ?_⟩
       refine et_1 (i := 13) (by kernel_rfl) ?_
       refine ei_i rfl rfl (wn_none rfl) (os_pull4 (os_append (E := encI64) rfl sB_42 zv_3 rfl rfl rfl (fun w s => (rds_row 1 rfl rfl) [] w s) rfl (by simp; omega) (by unfold maxLen; simp; omega))) rfl ?_; rintro _ _ ⟨ao194, ac194, rfl, rfl⟩; refine ⟨[_, _, _, _, _], rfl, ?_⟩
       refine e_q 14 rfl (wn_none rfl) (op_nilck rfl) ?_
       refine e_q 15 rfl (wn_none rfl) (op_field fld_116_3 rfl) ?_
       refine et_1 (i := 16) (by kernel_rfl) ?_
       refine ei_iN rfl rfl (wn_none rfl) (os_pull4 (os_store (v := .slice _ _ _) sc_42 rfl rfl rfl rfl (Free.zero _) rfl)) ?_; rintro _ _ ⟨rfl, rfl⟩; refine ⟨[_, _, _, _, _], rfl, ?_⟩
       refine e_q 17 rfl (wn_none rfl) (op_nilck rfl) ?_
       refine e_q 18 rfl (wn_none rfl) (op_field fld_116_4 rfl) ?_
       refine et_1 (i := 19) (by kernel_rfl) ?_
       refine ei_iN rfl rfl (wn_none rfl) (os_store (v := .slice _ _ _) sc_42 rfl rfl rfl rfl (Free.zero _) rfl) ?_; rintro _ _ ⟨rfl, rfl⟩; refine ⟨[_, _, _, _, _], rfl, ?_⟩
       refine et_nil (by kernel_rfl) ?_
       refine px_blockN ?_
       refine px_loop2 (i + 1, e1, g1, e2, g2, ao192, ac192, ao194, ac194) (by dsimp only; omega) (by (try dsimp only); omega) trivial ?_ (fun _ s => (by (try dsimp only); simp only [← rep_snoc be, ← rep_snoc lf]; exact ((((((((s.del 4).del 2).pull 5).pull 2).pull 3).pull 5).pull 5).pull 5)))
       repeat (first | exact kept_over | refine kept_upd rfl ?_ | refine kept_overS (by decide) ?_)
      ·
       refine ei_i rfl rfl (wn_none rfl) (os_bslice (E := encI64) [_] (ys := [_]) sB_42 zv_3 rfl rfl rfl rfl (by decide)) rfl ?_; rintro _ _ ⟨ao195, rfl, rfl⟩; refine ⟨[_, _, _, _, _], rfl, ?_⟩
       refine et_1 (i := 7) (by kernel_rfl) ?_
       refine ei_i rfl rfl (wn_none rfl) (os_pull3 (os_append (E := encI64) rfl sB_42 zv_3 rfl rfl rfl (fun w s => (rds_row 2 rfl rfl) [] w s) rfl (by simp; omega) (by unfold maxLen; simp; omega))) rfl ?_; rintro _ _ ⟨ao196, ac196, rfl, rfl⟩; refine ⟨[_, _, _, _, _], rfl, ?_⟩
       refine et_1 (i := 13) (by kernel_rfl) ?_
       refine ei_i rfl rfl (wn_none rfl) (os_pull4 (os_append (E := encI64) rfl sB_42 zv_3 rfl rfl rfl (fun w s => (rds_row 2 rfl rfl) [] w s) rfl (by simp; omega) (by unfold maxLen; simp; omega))) rfl ?_; rintro _ _ ⟨ao197, ac197, rfl, rfl⟩; refine ⟨[_, _, _, _, _], rfl, ?_⟩
       refine e_q 14 rfl (wn_none rfl) (op_nilck rfl) ?_
       refine e_q 15 rfl (wn_none rfl) (op_field fld_116_3 rfl) ?_
       refine et_1 (i := 16) (by kernel_rfl) ?_
       refine ei_iN rfl rfl (wn_none rfl) (os_pull4 (os_store (v := .slice _ _ _) sc_42 rfl rfl rfl rfl (Free.zero _) rfl)) ?_; rintro _ _ ⟨rfl, rfl⟩; refine ⟨[_, _, _, _, _], rfl, ?_⟩
       refine e_q 17 rfl (wn_none rfl) (op_nilck rfl) ?_
       refine e_q 18 rfl (wn_none rfl) (op_field fld_116_4 rfl) ?_
       refine et_1 (i := 19) (by kernel_rfl) ?_
       refine ei_iN rfl rfl (wn_none rfl) (os_store (v := .slice _ _ _) sc_42 rfl rfl rfl rfl (Free.zero _) rfl) ?_; rintro _ _ ⟨rfl, rfl⟩; refine ⟨[_, _, _, _, _], rfl, ?_⟩
       refine et_nil (by kernel_rfl) ?_
       refine px_blockN ?_
       refine px_loop2 (i + 1, e1, g1, e2, g2, ao196, ac196, ao197, ac197) (by dsimp only; omega) (by (try dsimp only); omega) trivial ?_ (fun _ s => (by (try dsimp only); simp only [← rep_snoc be, ← rep_snoc lf]; exact ((((((((s.del 4).del 3).pull 5).pull 2).pull 3).pull 5).pull 5).pull 5)))
       repeat (first | exact kept_over | refine kept_upd rfl ?_ | refine kept_overS (by decide) ?_)
     ·
      refine ei_i rfl rfl (wn_none rfl) (os_bslice (E := encI64) [_] (ys := [_]) sB_42 zv_3 rfl rfl rfl rfl (by decide)) rfl ?_; rintro _ _ ⟨ao198, rfl, rfl⟩; refine ⟨[_, _, _, _], rfl, ?_⟩
      refine et_1 (i := 6) (by kernel_rfl) ?_
      refine ei_i rfl rfl (wn_none rfl) (os_bslice (E := encI64) [_] (ys := [_]) sB_42 zv_3 rfl rfl rfl rfl (by decide)) rfl ?_; rintro _ _ ⟨ao199, rfl, rfl⟩; refine ⟨[_, _, _, _, _], rfl, ?_⟩
      refine et_1 (i := 7) (by kernel_rfl) ?_
      refine ei_i rfl rfl (wn_none rfl) (os_pull3 (os_append (E := encI64) rfl sB_42 zv_3 rfl rfl rfl (fun w s => (rds_row 1 rfl rfl) [] w s) rfl (by simp; omega) (by unfold maxLen; simp; omega))) rfl ?_; rintro _ _ ⟨ao200, ac200, rfl, rfl⟩; refine ⟨[_, _, _, _, _], rfl, ?_⟩
      refine et_1 (i := 13) (by kernel_rfl) ?_
      refine ei_i rfl rfl (wn_none rfl) (os_pull4 (os_append (E := encI64) rfl sB_42 zv_3 rfl rfl rfl (fun w s => (rds_row 3 rfl rfl) [] w s) rfl (by simp; omega) (by unfold maxLen; simp; omega))) rfl ?_; rintro _ _ ⟨ao201, ac201, rfl, rfl⟩; refine ⟨[_, _, _, _, _], rfl, ?_⟩
      refine e_q 14 rfl (wn_none rfl) (op_nilck rfl) ?_
      refine e_q 15 rfl (wn_none rfl) (op_field fld_116_3 rfl) ?_
      refine et_1 (i := 16) (by kernel_rfl) ?_
      refine ei_iN rfl rfl (wn_none rfl) (os_pull4 (os_store (v := .slice _ _ _) sc_42 rfl rfl rfl rfl (Free.zero _) rfl)) ?_; rintro _ _ ⟨rfl, rfl⟩; refine ⟨[_, _, _, _, _], rfl, ?_⟩
      refine e_q 17 rfl (wn_none rfl) (op_nilck rfl) ?_
      refine e_q 18 rfl (wn_none rfl) (op_field fld_116_4 rfl) ?_
      refine et_1 (i := 19) (by kernel_rfl) ?_
      refine ei_iN rfl rfl (wn_none rfl) (os_store (v := .slice _ _ _) sc_42 rfl rfl rfl rfl (Free.zero _) rfl) ?_; rintro _ _ ⟨rfl, rfl⟩; refine ⟨[_, _, _, _, _], rfl, ?_⟩
      refine et_nil (by kernel_rfl) ?_
      refine px_blockN ?_
      refine px_loop2 (i + 1, e1, g1, e2, g2, ao200, ac200, ao201, ac201) (by dsimp only; omega) (by (try dsimp only); omega) trivial ?_ (fun _ s => (by (try dsimp only); simp only [← rep_snoc be, ← rep_snoc lf]; exact ((((((((s.del 4).del 3).pull 5).pull 2).pull 3).pull 5).pull 5).pull 5)))
      repeat (first | exact kept_over | refine kept_upd rfl ?_ | refine kept_overS (by decide) ?_)
    ·
     refine ei_i rfl rfl (wn_none rfl) (os_bslice (E := encI64) [_] (ys := [_]) sB_42 zv_3 rfl rfl rfl rfl (by decide)) rfl ?_; rintro _ _ ⟨ao202, rfl, rfl⟩; refine ⟨[_, _, _, _], rfl, ?_⟩
     refine et_2 (i1 := 5) (i2 := 12) (by kernel_rfl) ?_ ?_
     ·
      refine ei_i rfl rfl (wn_none rfl) (os_q (op_ld 1 sc_42 rfl rfl rfl)) rfl ?_; rintro _ _ ⟨rfl, rfl⟩; refine ⟨[_, _, _, _], rfl, ?_⟩
      refine et_2 (i1 := 7) (i2 := 12) (by kernel_rfl) ?_ ?_
      ·
       refine ei_i rfl rfl (wn_none rfl) (os_pull2 (os_append (E := encI64) rfl sB_42 zv_3 rfl rfl rfl (fun w s => (rds_row 1 rfl rfl) [] w s) rfl (by simp; omega) (by unfold maxLen; simp; omega))) rfl ?_; rintro _ _ ⟨ao203, ac203, rfl, rfl⟩; refine ⟨[_, _, _, _], rfl, ?_⟩
       refine et_1 (i := 12) (by kernel_rfl) ?_
       refine ei_i rfl rfl (wn_none rfl) (os_bslice (E := encI64) [_] (ys := [_]) sB_42 zv_3 rfl rfl rfl rfl (by decide)) rfl ?_; rintro _ _ ⟨ao204, rfl, rfl⟩; refine ⟨[_, _, _, _, _], rfl, ?_⟩
       refine et_1 (i := 13) (by kernel_rfl) ?_
       refine ei_i rfl rfl (wn_none rfl) (os_pull4 (os_append (E := encI64) rfl sB_42 zv_3 rfl rfl rfl (fun w s => (rds_row 1 rfl rfl) [] w s) rfl (by simp; omega) (by unfold maxLen; simp; omega))) rfl ?_; rintro _ _ ⟨ao205, ac205, rfl, rfl⟩; refine ⟨[_, _, _, _, _], rfl, ?_⟩
       refine e_q 14 rfl (wn_none rfl) (op_nilck rfl) ?_
       refine e_q 15 rfl (wn_none rfl) (op_field fld_116_3 rfl) ?_
       refine et_1 (i := 16) (by kernel_rfl) ?_
       refine ei_iN rfl rfl (wn_none rfl) (os_pull4 (os_store (v := .slice _ _ _) sc_42 rfl rfl rfl rfl (Free.zero _) rfl)) ?_; rintro _ _ ⟨rfl, rfl⟩; refine ⟨[_, _, _, _, _], rfl, ?_⟩
       refine e_q 17 rfl (wn_none rfl) (op_nilck rfl) ?_
       refine e_q 18 rfl (wn_none rfl) (op_field fld_116_4 rfl) ?_
       refine et_1 (i := 19) (by kernel_rfl) ?_
       refine ei_iN rfl rfl (wn_none rfl) (os_store (v := .slice _ _ _) sc_42 rfl rfl rfl rfl (Free.zero _) rfl) ?_; rintro _ _ ⟨rfl, rfl⟩; refine ⟨[_, _, _, _, _], rfl, ?_⟩
       refine et_nil (by kernel_rfl) ?_
       refine px_blockN ?_
       refine px_loop2 (i + 1, e1, g1, e2, g2, ao203, ac203, ao205, ac205) (by dsimp only; omega) (by (try dsimp only); omega) trivial ?_ (fun _ s => (by (try dsimp only); simp only [← rep_snoc be, ← rep_snoc lf]; exact ((((((((s.del 4).del 2).pull 5).pull 2).pull 3).pull 5).pull 5).pull 5)))
       repeat (first | exact kept_over | refine kept_upd rfl ?_ | refine kept_overS (by decide) ?_)
      ·
       refine ei_i rfl rfl (wn_none rfl) (os_bslice (E := encI64) [_] (ys := [_]) sB_42 zv_3 rfl rfl rfl rfl (by decide)) rfl ?_; rintro _ _ ⟨ao206, rfl, rfl⟩; refine ⟨[_, _, _, _, _], rfl, ?_⟩
       refine et_1 (i := 7) (by kernel_rfl) ?_
       refine ei_i rfl rfl (wn_none rfl) (os_pull3 (os_append (E := encI64) rfl sB_42 zv_3 rfl rfl rfl (fun w s => (rds_row 2 rfl rfl) [] w s) rfl (by simp; omega) (by unfold maxLen; simp; omega))) rfl ?_; rintro _ _ ⟨ao207, ac207, rfl, rfl⟩; refine ⟨[_, _, _, _, _], rfl, ?_⟩
       refine et_1 (i := 13) (by kernel_rfl) ?_
       refine ei_i rfl rfl (wn_none rfl) (os_pull4 (os_append (E := encI64) rfl sB_42 zv_3 rfl rfl rfl (fun w s => (rds_row 2 rfl rfl) [] w s) rfl (by simp; omega) (by unfold maxLen; simp; omega))) rfl ?_; rintro _ _ ⟨ao208, ac208, rfl, rfl⟩; refine ⟨[_, _, _, _, _], rfl, ?_⟩
       refine e_q 14 rfl (wn_none rfl) (op_nilck rfl) ?_
       refine e_q 15 rfl (wn_none rfl) (op_field fld_116_3 rfl) ?_
       refine et_1 (i := 16) (by kernel_rfl) ?_
       refine ei_iN rfl rfl (wn_none rfl) (os_pull4 (os_store (v := .slice _ _ _) sc_42 rfl rfl rfl rfl (Free.zero _) rfl)) ?_; rintro _ _ ⟨rfl, rfl⟩; refine ⟨[_, _, _, _, _], rfl, ?_⟩
       refine e_q 17 rfl (wn_none rfl) (op_nilck rfl) ?_
       refine e_q 18 rfl (wn_none rfl) (op_field fld_116_4 rfl) ?_
       refine et_1 (i := 19) (by kernel_rfl) ?_
       refine ei_iN rfl rfl (wn_none rfl) (os_store (v := .slice _ _ _) sc_42 rfl rfl rfl rfl (Free.zero _) rfl) ?_; rintro _ _ ⟨rfl, rfl⟩; refine ⟨[_, _, _, _, _], rfl, ?_⟩
       refine et_nil (by kernel_rfl) ?_
       refine px_blockN ?_
       refine px_loop2 (i + 1, e1, g1, e2, g2, ao207, ac207, ao208, ac208) (by dsimp only; omega) (by (try dsimp only); omega) trivial ?_ (fun _ s => (by (try dsimp only); simp only [← rep_snoc be, ← rep_snoc lf]; exact ((((((((s.del 4).del 3).pull 5).pull 2).pull 3).pull 5).pull 5).pull 5)))
       repeat (first | exact kept_over | refine kept_upd rfl ?_ | refine kept_overS (by decide) ?_)
     ·
      refine ei_i rfl rfl (wn_none rfl) (os_bslice (E := encI64) [_] (ys := [_]) sB_42 zv_3 rfl rfl rfl rfl (by decide)) rfl ?_; rintro _ _ ⟨ao209, rfl, rfl⟩; refine ⟨[_, _, _, _, _], rfl, ?_⟩
      refine et_1 (i := 5) (by kernel_rfl) ?_
      refine ei_i rfl rfl (wn_none rfl) (os_q (op_ld 2 sc_42 rfl rfl rfl)) rfl ?_; rintro _ _ ⟨rfl, rfl⟩; refine ⟨[_, _, _, _, _], rfl, ?_⟩
      refine et_1 (i := 7) (by kernel_rfl) ?_
      refine ei_i rfl rfl (wn_none rfl) (os_pull3 (os_append (E := encI64) rfl sB_42 zv_3 rfl rfl rfl (fun w s => (rds_row 2 rfl rfl) [] w s) rfl (by simp; omega) (by unfold maxLen; simp; omega))) rfl ?_; rintro _ _ ⟨ao210, ac210, rfl, rfl⟩; refine ⟨[_, _, _, _, _], rfl, ?_⟩
      refine et_1 (i := 13) (by kernel_rfl) ?_
      refine ei_i rfl rfl (wn_none rfl) (os_pull4 (os_append (E := encI64) rfl sB_42 zv_3 rfl rfl rfl (fun w s => (rds_row 2 rfl rfl) [] w s) rfl (by simp; omega) (by unfold maxLen; simp; omega))) rfl ?_; rintro _ _ ⟨ao211, ac211, rfl, rfl⟩; refine ⟨[_, _, _, _, _], rfl, ?_⟩
      refine e_q 14 rfl (wn_none rfl) (op_nilck rfl) ?_
      refine e_q 15 rfl (wn_none rfl) (op_field fld_116_3 rfl) ?_
      refine et_1 (i := 16) (by kernel_rfl) ?_
      refine ei_iN rfl rfl (wn_none rfl) (os_pull4 (os_store (v := .slice _ _ _) sc_42 rfl rfl rfl rfl (Free.zero _) rfl)) ?_; rintro _ _ ⟨rfl, rfl⟩; refine ⟨[_, _, _, _, _], rfl, ?_⟩
      refine e_q 17 rfl (wn_none rfl) (op_nilck rfl) ?_
      refine e_q 18 rfl (wn_none rfl) (op_field fld_116_4 rfl) ?_
      refine et_1 (i := 19) (by kernel_rfl) ?_
      refine ei_iN rfl rfl (wn_none rfl) (os_store (v := .slice _ _ _) sc_42 rfl rfl rfl rfl (Free.zero _) rfl) ?_; rintro _ _ ⟨rfl, rfl⟩; refine ⟨[_, _, _, _, _], rfl, ?_⟩
      refine et_nil (by kernel_rfl) ?_
      refine px_blockN ?_
      refine px_loop2 (i + 1, e1, g1, e2, g2, ao210, ac210, ao211, ac211) (by dsimp only; omega) (by (try dsimp only); omega) trivial ?_ (fun _ s => (by (try dsimp only); simp only [← rep_snoc be, ← rep_snoc lf]; exact ((((((((s.del 4).del 3).pull 5).pull 2).pull 3).pull 5).pull 5).pull 5)))
      repeat (first | exact kept_over | refine kept_upd rfl ?_ | refine kept_overS (by decide) ?_)
    ·
     refine ei_i rfl rfl (wn_none rfl) (os_bslice (E := encI64) [_] (ys := [_]) sB_42 zv_3 rfl rfl rfl rfl (by decide)) rfl ?_; rintro _ _ ⟨ao212, rfl, rfl⟩; refine ⟨[_, _, _, _], rfl, ?_⟩
     refine et_2 (i1 := 5) (i2 := 6) (by kernel_rfl) ?_ ?_
     ·
      refine ei_i rfl rfl (wn_none rfl) (os_q (op_ld 1 sc_42 rfl rfl rfl)) rfl ?_; rintro _ _ ⟨rfl, rfl⟩; refine ⟨[_, _, _, _], rfl, ?_⟩
      refine et_1 (i := 6) (by kernel_rfl) ?_
      refine ei_i rfl rfl (wn_none rfl) (os_bslice (E := encI64) [_] (ys := [_]) sB_42 zv_3 rfl rfl rfl rfl (by decide)) rfl ?_; rintro _ _ ⟨ao213, rfl, rfl⟩; refine ⟨[_, _, _, _, _], rfl, ?_⟩
      refine et_1 (i := 7) (by kernel_rfl) ?_
      refine ei_i rfl rfl (wn_none rfl) (os_pull3 (os_append (E := encI64) rfl sB_42 zv_3 rfl rfl rfl (fun w s => (rds_row 1 rfl rfl) [] w s) rfl (by simp; omega) (by unfold maxLen; simp; omega))) rfl ?_; rintro _ _ ⟨ao214, ac214, rfl, rfl⟩; refine ⟨[_, _, _, _, _], rfl, ?_⟩
      refine et_1 (i := 13) (by kernel_rfl) ?_
      refine ei_i rfl rfl (wn_none rfl) (os_pull4 (os_append (E := encI64) rfl sB_42 zv_3 rfl rfl rfl (fun w s => (rds_row 3 rfl rfl) [] w s) rfl (by simp; omega) (by unfold maxLen; simp; omega))) rfl ?_; rintro _ _ ⟨ao215, ac215, rfl, rfl⟩; refine ⟨[_, _, _, _, _], rfl, ?_⟩
      refine e_q 14 rfl (wn_none rfl) (op_nilck rfl) ?_
      refine e_q 15 rfl (wn_none rfl) (op_field fld_116_3 rfl) ?_
      refine et_1 (i := 16) (by kernel_rfl) ?_
      refine ei_iN rfl rfl (wn_none rfl) (os_pull4 (os_store (v := .slice _ _ _) sc_42 rfl rfl rfl rfl (Free.zero _) rfl)) ?_; rintro _ _ ⟨rfl, rfl⟩; refine ⟨[_, _, _, _, _], rfl, ?_⟩
      refine e_q 17 rfl (wn_none rfl) (op_nilck rfl) ?_
      refine e_q 18 rfl (wn_none rfl) (op_field fld_116_4 rfl) ?_
      refine et_1 (i := 19) (by kernel_rfl) ?_
      refine ei_iN rfl rfl (wn_none rfl) (os_store (v := .slice _ _ _) sc_42 rfl rfl rfl rfl (Free.zero _) rfl) ?_; rintro _ _ ⟨rfl, rfl⟩; refine ⟨[_, _, _, _, _], rfl, ?_⟩
      refine et_nil (by kernel_rfl) ?_
      refine px_blockN ?_
      refine px_loop2 (i + 1, e1, g1, e2, g2, ao214, ac214, ao215, ac215) (by dsimp only; omega) (by (try dsimp only); omega) trivial ?_ (fun _ s => (by (try dsimp only); simp only [← rep_snoc be, ← rep_snoc lf]; exact ((((((((s.del 4).del 3).pull 5).pull 2).pull 3).pull 5).pull 5).pull 5)))
      repeat (first | exact kept_over | refine kept_upd rfl ?_ | refine kept_overS (by decide) ?_)
     ·
      refine ei_i rfl rfl (wn_none rfl) (os_bslice (E := encI64) [_] (ys := [_]) sB_42 zv_3 rfl rfl rfl rfl (by decide)) rfl ?_; rintro _ _ ⟨ao216, rfl, rfl⟩; refine ⟨[_, _, _, _, _], rfl, ?_⟩
      refine et_1 (i := 5) (by kernel_rfl) ?_
      refine ei_i rfl rfl (wn_none rfl) (os_q (op_ld 2 sc_42 rfl rfl rfl)) rfl ?_; rintro _ _ ⟨rfl, rfl⟩; refine ⟨[_, _, _, _, _], rfl, ?_⟩
      refine et_1 (i := 7) (by kernel_rfl) ?_
      refine ei_i rfl rfl (wn_none rfl) (os_pull3 (os_append (E := encI64) rfl sB_42 zv_3 rfl rfl rfl (fun w s => (rds_row 1 rfl rfl) [] w s) rfl (by simp; omega) (by unfold maxLen; simp; omega))) rfl ?_; rintro _ _ ⟨ao217, ac217, rfl, rfl⟩; refine ⟨[_, _, _, _, _], rfl, ?_⟩
      refine et_1 (i := 13) (by kernel_rfl) ?_
      refine ei_i rfl rfl (wn_none rfl) (os_pull4 (os_append (E := encI64) rfl sB_42 zv_3 rfl rfl rfl (fun w s => (rds_row 3 rfl rfl) [] w s) rfl (by simp; omega) (by unfold maxLen; simp; omega))) rfl ?_; rintro _ _ ⟨ao218, ac218, rfl, rfl⟩; refine ⟨[_, _, _, _, _], rfl, ?_⟩
      refine e_q 14 rfl (wn_none rfl) (op_nilck rfl) ?_
      refine e_q 15 rfl (wn_none rfl) (op_field fld_116_3 rfl) ?_
      refine et_1 (i := 16) (by kernel_rfl) ?_
      refine ei_iN rfl rfl (wn_none rfl) (os_pull4 (os_store (v := .slice _ _ _) sc_42 rfl rfl rfl rfl (Free.zero _) rfl)) ?_; rintro _ _ ⟨rfl, rfl⟩; refine ⟨[_, _, _, _, _], rfl, ?_⟩
      refine e_q 17 rfl (wn_none rfl) (op_nilck rfl) ?_
      refine e_q 18 rfl (wn_none rfl) (op_field fld_116_4 rfl) ?_
      refine et_1 (i := 19) (by kernel_rfl) ?_
      refine ei_iN rfl rfl (wn_none rfl) (os_store (v := .slice _ _ _) sc_42 rfl rfl rfl rfl (Free.zero _) rfl) ?_; rintro _ _ ⟨rfl, rfl⟩; refine ⟨[_, _, _, _, _], rfl, ?_⟩
      refine et_nil (by kernel_rfl) ?_
      refine px_blockN ?_
      refine px_loop2 (i + 1, e1, g1, e2, g2, ao217, ac217, ao218, ac218) (by dsimp only; omega) (by (try dsimp only); omega) trivial ?_ (fun _ s => (by (try dsimp only); simp only [← rep_snoc be, ← rep_snoc lf]; exact ((((((((s.del 4).del 3).pull 5).pull 2).pull 3).pull 5).pull 5).pull 5)))
      repeat (first | exact kept_over | refine kept_upd rfl ?_ | refine kept_overS (by decide) ?_)
   ·
    refine ei_i rfl rfl (wn_none rfl) (os_bslice (E := encI64) [_] (ys := [_]) sB_42 zv_3 rfl rfl rfl rfl (by decide)) rfl ?_; rintro _ _ ⟨ao219, rfl, rfl⟩; refine ⟨[_, _, _, _], rfl, ?_⟩
    refine et_3 (i1 := 5) (i2 := 6) (i3 := 11) (by kernel_rfl) ?_ ?_ ?_
    ·
     refine ei_i rfl rfl (wn_none rfl) (os_q (op_ld 1 sc_42 rfl rfl rfl)) rfl ?_; rintro _ _ ⟨rfl, rfl⟩; refine ⟨[_, _, _, _], rfl, ?_⟩
     refine et_2 (i1 := 6) (i2 := 11) (by kernel_rfl) ?_ ?_
     ·
      refine ei_i rfl rfl (wn_none rfl) (os_bslice (E := encI64) [_] (ys := [_]) sB_42 zv_3 rfl rfl rfl rfl (by decide)) rfl ?_; rintro _ _ ⟨ao220, rfl, rfl⟩; refine ⟨[_, _, _, _, _], rfl, ?_⟩
      refine et_2 (i1 := 7) (i2 := 11) (by kernel_rfl) ?_ ?_
      ·
       refine ei_i rfl rfl (wn_none rfl) (os_pull3 (os_append (E := encI64) rfl sB_42 zv_3 rfl rfl rfl (fun w s => (rds_row 1 rfl rfl) [] w s) rfl (by simp; omega) (by unfold maxLen; simp; omega))) rfl ?_; rintro _ _ ⟨ao221, ac221, rfl, rfl⟩; refine ⟨[_, _, _, _, _], rfl, ?_⟩
       refine et_1 (i := 11) (by kernel_rfl) ?_
       refine ei_i rfl rfl (wn_none rfl) (os_q (op_ld 3 sc_42 rfl rfl rfl)) rfl ?_; rintro _ _ ⟨rfl, rfl⟩; refine ⟨[_, _, _, _, _], rfl, ?_⟩
       refine et_1 (i := 13) (by kernel_rfl) ?_
       refine ei_i rfl rfl (wn_none rfl) (os_pull4 (os_append (E := encI64) rfl sB_42 zv_3 rfl rfl rfl (fun w s => (rds_row 3 rfl rfl) [] w s) rfl (by simp; omega) (by unfold maxLen; simp; omega))) rfl ?_; rintro _ _ ⟨ao222, ac222, rfl, rfl⟩; refine ⟨[_, _, _, _, _], rfl, ?_⟩
       refine e_q 14 rfl (wn_none rfl) (op_nilck rfl) ?_
       refine e_q 15 rfl (wn_none rfl) (op_field fld_116_3 rfl) ?_
       refine et_1 (i := 16) (by kernel_rfl) ?_
       refine ei_iN rfl rfl (wn_none rfl) (os_pull4 (os_store (v := .slice _ _ _) sc_42 rfl rfl rfl rfl (Free.zero _) rfl)) ?_; rintro _ _ ⟨rfl, rfl⟩; refine ⟨[_, _, _, _, _], rfl, ?_⟩
       refine e_q 17 rfl (wn_none rfl) (op_nilck rfl) ?_
       refine e_q 18 rfl (wn_none rfl) (op_field fld_116_4 rfl) ?_
       refine et_1 (i := 19) (by kernel_rfl) ?_
       refine ei_iN rfl rfl (wn_none rfl) (os_store (v := .slice _ _ _) sc_42 rfl rfl rfl rfl (Free.zero _) rfl) ?_; rintro _ _ ⟨rfl, rfl⟩; refine ⟨[_, _, _, _, _], rfl, ?_⟩
       refine et_nil (by kernel_rfl) ?_
       refine px_blockN ?_
       refine px_loop2 (i + 1, e1, g1, e2, g2, ao221, ac221, ao222, ac222) (by dsimp only; omega) (by (try dsimp only); omega) trivial ?_ (fun _ s => (by (try dsimp only); simp only [← rep_snoc be, ← rep_snoc lf]; exact ((((((((s.del 4).del 3).pull 5).pull 2).pull 3).pull 5).pull 5).pull 5)))
       repeat (first | exact kept_over | refine kept_upd rfl ?_ | refine kept_overS (by decide) ?_)
      ·
       refine ei_i rfl rfl (wn_none rfl) (os_q (op_ld 2 sc_42 rfl rfl rfl)) rfl ?_; rintro _ _ ⟨rfl, rfl⟩; refine ⟨[_, _, _, _, _], rfl, ?_⟩
       refine et_1 (i := 7) (by kernel_rfl) ?_
       refine ei_i rfl rfl (wn_none rfl) (os_pull3 (os_append (E := encI64) rfl sB_42 zv_3 rfl rfl rfl (fun w s => (rds_row 1 rfl rfl) [] w s) rfl (by simp; omega) (by unfold maxLen; simp; omega))) rfl ?_; rintro _ _ ⟨ao223, ac223, rfl, rfl⟩; refine ⟨[_, _, _, _, _], rfl, ?_⟩
       refine et_1 (i := 13) (by kernel_rfl) ?_
       refine ei_i rfl rfl (wn_none rfl) (os_pull4 (os_append (E := encI64) rfl sB_42 zv_3 rfl rfl rfl (fun w s => (rds_row 3 rfl rfl) [] w s) rfl (by simp; omega) (by unfold maxLen; simp; omega))) rfl ?_; rintro _ _ ⟨ao224, ac224, rfl, rfl⟩; refine ⟨[_, _, _, _, _], rfl, ?_⟩
       refine e_q 14 rfl (wn_none rfl) (op_nilck rfl) ?_
       refine e_q 15 rfl (wn_none rfl) (op_field fld_116_3 rfl) ?_
       refine et_1 (i := 16) (by kernel_rfl) ?_
       refine ei_iN rfl rfl (wn_none rfl) (os_pull4 (os_store (v := .slice _ _ _) sc_42 rfl rfl rfl rfl (Free.zero _) rfl)) ?_; rintro _ _ ⟨rfl, rfl⟩; refine ⟨[_, _, _, _, _], rfl, ?_⟩
       refine e_q 17 rfl (wn_none rfl) (op_nilck rfl) ?_
       refine e_q 18 rfl (wn_none rfl) (op_field fld_116_4 rfl) ?_
       refine et_1 (i := 19) (by kernel_rfl) ?_
       refine ei_iN rfl rfl (wn_none rfl) (os_store (v := .slice _ _ _) sc_42 rfl rfl rfl rfl (Free.zero _) rfl) ?_; rintro _ _ ⟨rfl, rfl⟩; refine ⟨[_, _, _, _, _], rfl, ?_⟩
       refine et_nil (by kernel_rfl) ?_
       refine px_blockN ?_
       refine px_loop2 (i + 1, e1, g1, e2, g2, ao223, ac223, ao224, ac224) (by dsimp only; omega) (by (try dsimp only); omega) trivial ?_ (fun _ s => (by (try dsimp only); simp only [← rep_snoc be, ← rep_snoc lf]; exact ((((((((s.del 4).del 3).pull 5).pull 2).pull 3).pull 5).pull 5).pull 5)))
       repeat (first | exact kept_over | refine kept_upd rfl ?_ | refine kept_overS (by decide) ?_)
     ·
      refine ei_i rfl rfl (wn_none rfl) (os_q (op_ld 1 sc_42 rfl rfl rfl)) rfl ?_; rintro _ _ ⟨rfl, rfl⟩; refine ⟨[_, _, _, _], rfl, ?_⟩
      refine et_1 (i := 6) (by kernel_rfl) ?_
      refine ei_i rfl rfl (wn_none rfl) (os_bslice (E := encI64) [_] (ys := [_]) sB_42 zv_3 rfl rfl rfl rfl (by decide)) rfl ?_; rintro _ _ ⟨ao225, rfl, rfl⟩; refine ⟨[_, _, _, _, _], rfl, ?_⟩
      refine et_1 (i := 7) (by kernel_rfl) ?_
      refine ei_i rfl rfl (wn_none rfl) (os_pull3 (os_append (E := encI64) rfl sB_42 zv_3 rfl rfl rfl (fun w s => (rds_row 1 rfl rfl) [] w s) rfl (by simp; omega) (by unfold maxLen; simp; omega))) rfl ?_; rintro _ _ ⟨ao226, ac226, rfl, rfl⟩; refine ⟨[_, _, _, _, _], rfl, ?_⟩
      refine et_1 (i := 13) (by kernel_rfl) ?_
      refine ei_i rfl rfl (wn_none rfl) (os_pull4 (os_append (E := encI64) rfl sB_42 zv_3 rfl rfl rfl (fun w s => (rds_row 3 rfl rfl) [] w s) rfl (by simp; omega) (by unfold maxLen; simp; omega))) rfl ?_; rintro _ _ ⟨ao227, ac227, rfl, rfl⟩; refine ⟨[_, _, _, _, _], rfl, ?_⟩
      refine e_q 14 rfl (wn_none rfl) (op_nilck rfl) ?_
      refine e_q 15 rfl (wn_none rfl) (op_field fld_116_3 rfl) ?_
      refine et_1 (i := 16) (by kernel_rfl) ?_
      refine ei_iN rfl rfl (wn_none rfl) (os_pull4 (os_store (v := .slice _ _ _) sc_42 rfl rfl rfl rfl (Free.zero _) rfl)) ?_; rintro _ _ ⟨rfl, rfl⟩; refine ⟨[_, _, _, _, _], rfl, ?_⟩
      refine e_q 17 rfl (wn_none rfl) (op_nilck rfl) ?_
      refine e_q 18 rfl (wn_none rfl) (op_field fld_116_4 rfl) ?_
      refine et_1 (i := 19) (by kernel_rfl) ?_
      refine ei_iN rfl rfl (wn_none rfl) (os_store (v := .slice _ _ _) sc_42 rfl rfl rfl rfl (Free.zero _) rfl) ?_; rintro _ _ ⟨rfl, rfl⟩; refine ⟨[_, _, _, _, _], rfl, ?_⟩
      refine et_nil (by kernel_rfl) ?_
      refine px_blockN ?_
      refine px_loop2 (i + 1, e1, g1, e2, g2, ao226, ac226, ao227, ac227) (by dsimp only; omega) (by (try dsimp only); omega) trivial ?_ (fun _ s => (by (try dsimp only); simp only [← rep_snoc be, ← rep_snoc lf]; exact ((((((((s.del 4).del 3).pull 5).pull 2).pull 3).pull 5).pull 5).pull 5)))
      repeat (first | exact kept_over | refine kept_upd rfl ?_ | refine kept_overS (by decide) ?_)
    ·
     refine ei_i rfl rfl (wn_none rfl) (os_bslice (E := encI64) [_] (ys := [_]) sB_42 zv_3 rfl rfl rfl rfl (by decide)) rfl ?_; rintro _ _ ⟨ao228, rfl, rfl⟩; refine ⟨[_, _, _, _, _], rfl, ?_⟩
     refine et_2 (i1 := 5) (i2 := 11) (by kernel_rfl) ?_ ?_
     ·
      refine ei_i rfl rfl (wn_none rfl) (os_q (op_ld 2 sc_42 rfl rfl rfl)) rfl ?_; rintro _ _ ⟨rfl, rfl⟩; refine ⟨[_, _, _, _, _], rfl, ?_⟩
      refine et_2 (i1 := 7) (i2 := 11) (by kernel_rfl) ?_ ?_
      ·
       refine ei_i rfl rfl (wn_none rfl) (os_pull3 (os_append (E := encI64) rfl sB_42 zv_3 rfl rfl rfl (fun w s => (rds_row 1 rfl rfl) [] w s) rfl (by simp; omega) (by unfold maxLen; simp; omega))) rfl ?_; rintro _ _ ⟨ao229, ac229, rfl, rfl⟩; refine ⟨[_, _, _, _, _], rfl, ?_⟩
       refine et_1 (i := 11) (by kernel_rfl) ?_
       refine ei_i rfl rfl (wn_none rfl) (os_q (op_ld 3 sc_42 rfl rfl rfl)) rfl ?_; rintro _ _ ⟨rfl, rfl⟩; refine ⟨[_, _, _, _, _], rfl, ?_⟩
       refine et_1 (i := 13) (by kernel_rfl) ?_
       refine ei_i rfl rfl (wn_none rfl) (os_pull4 (os_append (E := encI64) rfl sB_42 zv_3 rfl rfl rfl (fun w s => (rds_row 3 rfl rfl) [] w s) rfl (by simp; omega) (by unfold maxLen; simp; omega))) rfl ?_; rintro _ _ ⟨ao230, ac230, rfl, rfl⟩; refine ⟨[_, _, _, _, _], rfl, ?_⟩
       refine e_q 14 rfl (wn_none rfl) (op_nilck rfl) ?_
       refine e_q 15 rfl (wn_none rfl) (op_field fld_116_3 rfl) ?_
       refine et_1 (i := 16) (by kernel_rfl) ?_
       refine ei_iN rfl rfl (wn_none rfl) (os_pull4 (os_store (v := .slice _ _ _) sc_42 rfl rfl rfl rfl (Free.zero _) rfl)) ?_; rintro _ _ ⟨rfl, rfl⟩; refine ⟨[_, _, _, _, _], rfl, ?_⟩
       refine e_q 17 rfl (wn_none rfl) (op_nilck rfl) ?_
       refine e_q 18 rfl (wn_none rfl) (op_field fld_116_4 rfl) ?_
       refine et_1 (i := 19) (by kernel_rfl) ?_
       refine ei_iN rfl rfl (wn_none rfl) (os_store (v := .slice _ _ _) sc_42 rfl rfl rfl rfl (Free.zero _) rfl) ?_; rintro _ _ ⟨rfl, rfl⟩; refine ⟨[_, _, _, _, _], rfl, ?_⟩
       refine et_nil (by kernel_rfl) ?_
       refine px_blockN ?_
       refine px_loop2 (i + 1, e1, g1, e2, g2, ao229, ac229, ao230, ac230) (by dsimp only; omega) (by (try dsimp only); omega) trivial ?_ (fun _ s => (by (try dsimp only); simp only [← rep_snoc be, ← rep_snoc lf]; exact ((((((((s.del 4).del 3).pull 5).pull 2).pull 3).pull 5).pull 5).pull 5)))
       repeat (first | exact kept_over | refine kept_upd rfl ?_ | refine kept_overS (by decide) ?_)
      ·
       refine ei_i rfl rfl (wn_none rfl) (os_q (op_ld 2 sc_42 rfl rfl rfl)) rfl ?_; rintro _ _ ⟨rfl, rfl⟩; refine ⟨[_, _, _, _, _], rfl, ?_⟩
       refine et_1 (i := 7) (by kernel_rfl) ?_
       refine ei_i rfl rfl (wn_none rfl) (os_pull3 (os_append (E := encI64) rfl sB_42 zv_3 rfl rfl rfl (fun w s => (rds_row 1 rfl rfl) [] w s) rfl (by simp; omega) (by unfold maxLen; simp; omega))) rfl ?_; rintro _ _ ⟨ao231, ac231, rfl, rfl⟩; refine ⟨[_, _, _, _, _], rfl, ?_⟩
       refine et_1 (i := 13) (by kernel_rfl) ?_
       refine ei_i rfl rfl (wn_none rfl) (os_pull4 (os_append (E := encI64) rfl sB_42 zv_3 rfl rfl rfl (fun w s => (rds_row 3 rfl rfl) [] w s) rfl (by simp; omega) (by unfold maxLen; simp; omega))) rfl ?_; rintro _ _ ⟨ao232, ac232, rfl, rfl⟩; refine ⟨[_, _, _, _, _], rfl, ?_⟩
       refine e_q 14 rfl (wn_none rfl) (op_nilck rfl) ?_
       refine e_q 15 rfl (wn_none rfl) (op_field fld_116_3 rfl) ?_
       refine et_1 (i := 16) (by kernel_rfl) ?_
       refine ei_iN rfl rfl (wn_none rfl) (os_pull4 (os_store (v := .slice _ _ _) sc_42 rfl rfl rfl rfl (Free.zero _) rfl)) ?_; rintro _ _ ⟨rfl, rfl⟩; refine ⟨[_, _, _, _, _], rfl, ?_⟩
       refine e_q 17 rfl (wn_none rfl) (op_nilck rfl) ?_
       refine e_q 18 rfl (wn_none rfl) (op_field fld_116_4 rfl) ?_
       refine et_1 (i := 19) (by kernel_rfl) ?_
       refine ei_iN rfl rfl (wn_none rfl) (os_store (v := .slice _ _ _) sc_42 rfl rfl rfl rfl (Free.zero _) rfl) ?_; rintro _ _ ⟨rfl, rfl⟩; refine ⟨[_, _, _, _, _], rfl, ?_⟩
       refine et_nil (by kernel_rfl) ?_
       refine px_blockN ?_
       refine px_loop2 (i + 1, e1, g1, e2, g2, ao231, ac231, ao232, ac232) (by dsimp only; omega) (by (try dsimp only); omega) trivial ?_ (fun _ s => (by (try dsimp only); simp only [← rep_snoc be, ← rep_snoc lf]; exact ((((((((s.del 4).del 3).pull 5).pull 2).pull 3).pull 5).pull 5).pull 5)))
       repeat (first | exact kept_over | refine kept_upd rfl ?_ | refine kept_overS (by decide) ?_)
     ·
      refine ei_i rfl rfl (wn_none rfl) (os_q (op_ld 2 sc_42 rfl rfl rfl)) rfl ?_; rintro _ _ ⟨rfl, rfl⟩; refine ⟨[_, _, _, _, _], rfl, ?_⟩
      refine et_1 (i := 5) (by kernel_rfl) ?_
      refine ei_i rfl rfl (wn_none rfl) (os_q (op_ld 2 sc_42 rfl rfl rfl)) rfl ?_; rintro _ _ ⟨rfl, rfl⟩; refine ⟨[_, _, _, _, _], rfl, ?_⟩
      refine et_1 (i := 7) (by kernel_rfl) ?_
      refine ei_i rfl rfl (wn_none rfl) (os_pull3 (os_append (E := encI64) rfl sB_42 zv_3 rfl rfl rfl (fun w s => (rds_row 1 rfl rfl) [] w s) rfl (by simp; omega) (by unfold maxLen; simp; omega))) rfl ?_; rintro _ _ ⟨ao233, ac233, rfl, rfl⟩; refine ⟨[_, _, _, _, _], rfl, ?_⟩
      refine et_1 (i := 13) (by kernel_rfl) ?_
      refine ei_i rfl rfl (wn_none rfl) (os_pull4 (os_append (E := encI64) rfl sB_42 zv_3 rfl rfl rfl (fun w s => (rds_row 3 rfl rfl) [] w s) rfl (by simp; omega) (by unfold maxLen; simp; omega))) rfl ?_; rintro _ _ ⟨ao234, ac234, rfl, rfl⟩; refine ⟨[_, _, _, _, _], rfl, ?_⟩
      refine e_q 14 rfl (wn_none rfl) (op_nilck rfl) ?_
      refine e_q 15 rfl (wn_none rfl) (op_field fld_116_3 rfl) ?_
      refine et_1 (i := 16) (by kernel_rfl) ?_
      refine ei_iN rfl rfl (wn_none rfl) (os_pull4 (os_store (v := .slice _ _ _) sc_42 rfl rfl rfl rfl (Free.zero _) rfl)) ?_; rintro _ _ ⟨rfl, rfl⟩; refine ⟨[_, _, _, _, _], rfl, ?_⟩
      refine e_q 17 rfl (wn_none rfl) (op_nilck rfl) ?_
      refine e_q 18 rfl (wn_none rfl) (op_field fld_116_4 rfl) ?_
      refine et_1 (i := 19) (by kernel_rfl) ?_
      refine ei_iN rfl rfl (wn_none rfl) (os_store (v := .slice _ _ _) sc_42 rfl rfl rfl rfl (Free.zero _) rfl) ?_; rintro _ _ ⟨rfl, rfl⟩; refine ⟨[_, _, _, _, _], rfl, ?_⟩
      refine et_nil (by kernel_rfl) ?_
      refine px_blockN ?_
      refine px_loop2 (i + 1, e1, g1, e2, g2, ao233, ac233, ao234, ac234) (by dsimp only; omega) (by (try dsimp only); omega) trivial ?_ (fun _ s => (by (try dsimp only); simp only [← rep_snoc be, ← rep_snoc lf]; exact ((((((((s.del 4).del 3).pull 5).pull 2).pull 3).pull 5).pull 5).pull 5)))
      repeat (first | exact kept_over | refine kept_upd rfl ?_ | refine kept_overS (by decide) ?_)
    ·
     refine ei_i rfl rfl (wn_none rfl) (os_q (op_ld 1 sc_42 rfl rfl rfl)) rfl ?_; rintro _ _ ⟨rfl, rfl⟩; refine ⟨[_, _, _, _], rfl, ?_⟩
     refine et_2 (i1 := 5) (i2 := 6) (by kernel_rfl) ?_ ?_
     ·
      refine ei_i rfl rfl (wn_none rfl) (os_q (op_ld 1 sc_42 rfl rfl rfl)) rfl ?_; rintro _ _ ⟨rfl, rfl⟩; refine ⟨[_, _, _, _], rfl, ?_⟩
      refine et_1 (i := 6) (by kernel_rfl) ?_
      refine ei_i rfl rfl (wn_none rfl) (os_bslice (E := encI64) [_] (ys := [_]) sB_42 zv_3 rfl rfl rfl rfl (by decide)) rfl ?_; rintro _ _ ⟨ao235, rfl, rfl⟩; refine ⟨[_, _, _, _, _], rfl, ?_⟩
      refine et_1 (i := 7) (by kernel_rfl) ?_
      refine ei_i rfl rfl (wn_none rfl) (os_pull3 (os_append (E := encI64) rfl sB_42 zv_3 rfl rfl rfl (fun w s => (rds_row 1 rfl rfl) [] w s) rfl (by simp; omega) (by unfold maxLen; simp; omega))) rfl ?_; rintro _ _ ⟨ao236, ac236, rfl, rfl⟩; refine ⟨[_, _, _, _, _], rfl, ?_⟩
      refine et_1 (i := 13) (by kernel_rfl) ?_
      refine ei_i rfl rfl (wn_none rfl) (os_pull4 (os_append (E := encI64) rfl sB_42 zv_3 rfl rfl rfl (fun w s => (rds_row 3 rfl rfl) [] w s) rfl (by simp; omega) (by unfold maxLen; simp; omega))) rfl ?_; rintro _ _ ⟨ao237, ac237, rfl, rfl⟩; refine ⟨[_, _, _, _, _], rfl, ?_⟩
      refine e_q 14 rfl (wn_none rfl) (op_nilck rfl) ?_
      refine e_q 15 rfl (wn_none rfl) (op_field fld_116_3 rfl) ?_
      refine et_1 (i := 16) (by kernel_rfl) ?_
      refine ei_iN rfl rfl (wn_none rfl) (os_pull4 (os_store (v := .slice _ _ _) sc_42 rfl rfl rfl rfl (Free.zero _) rfl)) ?_; rintro _ _ ⟨rfl, rfl⟩; refine ⟨[_, _, _, _, _], rfl, ?_⟩
      refine e_q 17 rfl (wn_none rfl) (op_nilck rfl) ?_
      refine e_q 18 rfl (wn_none rfl) (op_field fld_116_4 rfl) ?_
      refine et_1 (i := 19) (by kernel_rfl) ?_
      refine ei_iN rfl rfl (wn_none rfl) (os_store (v := .slice _ _ _) sc_42 rfl rfl rfl rfl (Free.zero _) rfl) ?_; rintro _ _ ⟨rfl, rfl⟩; refine ⟨[_, _, _, _, _], rfl, ?_⟩
      refine et_nil (by kernel_rfl) ?_
      refine px_blockN ?_
      refine px_loop2 (i + 1, e1, g1, e2, g2, ao236, ac236, ao237, ac237) (by dsimp only; omega) (by (try dsimp only); omega) trivial ?_ (fun _ s => (by (try dsimp only); simp only [← rep_snoc be, ← rep_snoc lf]; exact ((((((((s.del 4).del 3).pull 5).pull 2).pull 3).pull 5).pull 5).pull 5)))
      repeat (first | exact kept_over | refine kept_upd rfl ?_ | refine kept_overS (by decide) ?_)
     ·
      refine ei_i rfl rfl (wn_none rfl) (os_bslice (E := encI64) [_] (ys := [_]) sB_42 zv_3 rfl rfl rfl rfl (by decide)) rfl ?_; rintro _ _ ⟨ao238, rfl, rfl⟩; refine ⟨[_, _, _, _, _], rfl, ?_⟩
      refine et_1 (i := 5) (by kernel_rfl) ?_
      refine ei_i rfl rfl (wn_none rfl) (os_q (op_ld 2 sc_42 rfl rfl rfl)) rfl ?_; rintro _ _ ⟨rfl, rfl⟩; refine ⟨[_, _, _, _, _], rfl, ?_⟩
      refine et_1 (i := 7) (by kernel_rfl) ?_
      refine ei_i rfl rfl (wn_none rfl) (os_pull3 (os_append (E := encI64) rfl sB_42 zv_3 rfl rfl rfl (fun w s => (rds_row 1 rfl rfl) [] w s) rfl (by simp; omega) (by unfold maxLen; simp; omega))) rfl ?_; rintro _ _ ⟨ao239, ac239, rfl, rfl⟩; refine ⟨[_, _, _, _, _], rfl, ?_⟩
      refine et_1 (i := 13) (by kernel_rfl) ?_
      refine ei_i rfl rfl (wn_none rfl) (os_pull4 (os_append (E := encI64) rfl sB_42 zv_3 rfl rfl rfl (fun w s => (rds_row 3 rfl rfl) [] w s) rfl (by simp; omega) (by unfold maxLen; simp; omega))) rfl ?_; rintro _ _ ⟨ao240, ac240, rfl, rfl⟩; refine ⟨[_, _, _, _, _], rfl, ?_⟩
      refine e_q 14 rfl (wn_none rfl) (op_nilck rfl) ?_
      refine e_q 15 rfl (wn_none rfl) (op_field fld_116_3 rfl) ?_
      refine et_1 (i := 16) (by kernel_rfl) ?_
      refine ei_iN rfl rfl (wn_none rfl) (os_pull4 (os_store (v := .slice _ _ _) sc_42 rfl rfl rfl rfl (Free.zero _) rfl)) ?_; rintro _ _ ⟨rfl, rfl⟩; refine ⟨[_, _, _, _, _], rfl, ?_⟩
      refine e_q 17 rfl (wn_none rfl) (op_nilck rfl) ?_
      refine e_q 18 rfl (wn_none rfl) (op_field fld_116_4 rfl) ?_
      refine et_1 (i := 19) (by kernel_rfl) ?_
      refine ei_iN rfl rfl (wn_none rfl) (os_store (v := .slice _ _ _) sc_42 rfl rfl rfl rfl (Free.zero _) rfl) ?_; rintro _ _ ⟨rfl, rfl⟩; refine ⟨[_, _, _, _, _], rfl, ?_⟩
      refine et_nil (by kernel_rfl) ?_
      refine px_blockN ?_
      refine px_loop2 (i + 1, e1, g1, e2, g2, ao239, ac239, ao240, ac240) (by dsimp only; omega) (by (try dsimp only); omega) trivial ?_ (fun _ s => (by (try dsimp only); simp only [← rep_snoc be, ← rep_snoc lf]; exact ((((((((s.del 4).del 3).pull 5).pull 2).pull 3).pull 5).pull 5).pull 5)))
      repeat (first | exact kept_over | refine kept_upd rfl ?_ | refine kept_overS (by decide) ?_)
 ·have hp1 := hb1
  (try simp only [bn] at hp1)
  refine cd_exit ?_
  refine px_thenE ?_
  refine px_thenE ?_
  refine px_blockE ?_
  have ei : i = (t.nodes.length - o.length) := by rw [List.length_append, List.length_replicate] at hp1; omega
  subst ei
  exact px_end0 (l' := TreeObj pt t :: WRaw pw pt (growO t.nodes.length o) (sm ++ List.replicate (t.nodes.length - o.length) 0) (be ++ List.replicate (t.nodes.length - o.length) (-1)) (lf ++ List.replicate (t.nodes.length - o.length) (-1)) :: l) rfl (fun _ s => ((Sat.wrawMk rfl rfl rfl rfl (((((s.pull 5).pull 5).pull 5).pull 5).pull 5)).pull 1)) ⟨rfl, rfl⟩
end Go.SL

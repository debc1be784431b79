import Derived.Test.YtdeemlgkckpedaaWei2
import Derived.Test.YtdeemlgkckpedaaWei3
set_option linter.unusedVariables false
set_option linter.unusedSimpArgs false
namespace Go.SL
open Go.Proofs

set_option maxRecDepth 100000 in
set_option maxHeartbeats 1000000 in
theorem next_calls {w0 w : World} {l : List HProp} (pw pt : Nat) (t : TreeS) (o sm be lf : List Int) (lo : Option Addr) (lc : Nat) (xs : List Delta) (hs : Sat w0 w ((TreeObj pt t) :: (WRaw pw pt o sm be lf) :: l)) (h1 : o.length = t.nodes.length) (hen : Ent o) (hr : Rds w0 l encDelta lo xs) (hxl : xs.length ≤ 1000) :
  Calls Try.prog 78 #[.pointer (some ⟨pw, 0, none⟩), .slice lo xs.length lc] w (Ret w0 fun v l' => ∃ out ao c, v = .tuple #[.slice ao (List.length out) c, .int .i64 (nextO t.nodes o xs)] ∧ l' = Row 3 encI64 (.slice ao (List.length out) c) out :: TreeObj pt t :: WRaw pw pt o sm be lf :: l ∧ (nextO t.nodes o xs = 0 → out = (runO t.nodes o xs).2)) := by
 have hw := hs.treeWF
 have hm1 := hw.m1; have hm2 := hw.m2; have hle := hw.le; have hne := hw.ne; have hpa := hw.pa; have hnd := hw.nd
 obtain ⟨a1, c1, a2, c2, a3, c3, a4, c4, hs⟩ := (hs.pull 1).wrawOpen
 refine calls_enter Try.func78 rfl rfl rfl hs ?_
 refine cd_sr ?_
 refine oq (op_assign (v := .slice _ _ _) rfl) ?_
 refine oq (op_assign (v := .int _ _) rfl) ?_
 refine ol_nil_then ?_
 refine cd_sr ?_
 refine oi (os_bslice (E := encI64) [] (ys := ([] : List Int)) sB_42 zv_3 rfl rfl rfl rfl (by decide)) ?_; rintro _ _ ⟨ao1, rfl, rfl⟩
 refine oq (op_move (v := .pointer _) rfl) ?_
 refine oq (op_nilck rfl) ?_
 refine oq (op_field fld_116_1 rfl) ?_
 refine oq (op_ld 1 sc_42 rfl rfl rfl) ?_
 refine oi (os_append (E := encI64) rfl sB_42 zv_3 rfl rfl rfl (fun w s => (rds_row 2 rfl rfl) [] w s) rfl (by simp; omega) (by unfold maxLen; simp; omega)) ?_; rintro _ _ ⟨ao2, ac2, rfl, rfl⟩
 refine oq (op_assign (v := .slice _ _ _) rfl) ?_
 refine ol_nil_then ?_
 refine cd_seq ?_
 refine cd_sr ?_
 refine oq (op_move (v := .slice _ _ _) rfl) ?_
 refine oq (op_len_slice Try.underlying97 rfl) ?_
 refine oq (op_move (v := .int _ _) rfl) ?_
 refine ol_nil_then ?_
 refine cd_block ?_
 refine cd_loop2 (α := Nat × List Int) [(4, 5), (8, 9), (21, 64)] (fun x => [(21, .int .i64 (x.1 : Int))]) (fun x => Row 3 encI64 (.slice ao2 ([] ++ o).length ac2) x.2 :: _) (fun x => x.1 ≤ xs.length ∧ runO t.nodes o (xs.take x.1) = (0, x.2)) (fun x => xs.length - x.1) (0, [] ++ o) ⟨Nat.zero_le _, by rw [List.take_zero]; rfl⟩ ⟨rfl, trivial⟩ (fun _ s => s) ?_
 rintro ⟨i, cur⟩ ⟨hi, hrun⟩ f; (try dsimp only at hi hrun ⊢)
 have hcl := runO_len t.nodes (xs.take i) o
 have hent := runO_ent (ns := t.nodes) (xs.take i) hen
 rw [hrun] at hcl hent
 dsimp only at hcl hent
 have hcl0 : ([] ++ o).length = cur.length := by rw [List.nil_append]; exact hcl.symm
 refine cd_sr ?_
 refine oq (op_lt rfl rfl) ?_
 refine ol_nil_then ?_
 refine cd_seq ?_
 refine cd_cond rfl (fun hb1 => ?_) (fun hb1 => ?_)
 ·have hp1 := hb1
  (try simp only [bn] at hp1)
  have hi1 : i < xs.length := by omega
  refine cd_skip ?_
  refine px_then ?_
  refine cd_seq ?_
  refine cd_block ?_
  refine cd_sr ?_
  refine oq (op_index i sB_97 rfl rfl rfl (((((((hr.cons _).cons _).cons _).cons _).cons _).cons _).cons _) rfl (by omega)) ?_
  refine oq (op_ldaw (L := deltaC _) ag_102 (((((((hr.cons _).cons _).cons _).cons _).cons _).cons _).cons _) rfl (by omega) rfl (deltaC_ta _)) ?_
  refine oi (os_alloc (cs := (deltaC Delta.zero).toArray) zB_102 (by kernel_rfl)) ?_; rintro _ _ ⟨bx1, rfl, rfl⟩
  refine oN (os_storew (deltaC _) ag_102 rfl rfl (deltaC_len _) (deltaC_one _) (by simp [deltaC_len]) (Free.zero _)) ?_; rintro _ _ ⟨rfl, rfl⟩
  refine ol_nil_then ?_
  refine cd_pull7 ?_
  refine cd_seq ?_
  refine cd_draw (M := [_]) mx [6] (by kernel_rfl) ?_
  refine rg_q (wn_none rfl) (op_move (v := .pointer _) rfl) rfl rfl ?_
  refine rg_q (wn_none rfl) (op_nilck rfl) rfl rfl ?_
  refine rg_q (wn_none rfl) (op_field fld_116_0 rfl) rfl rfl ?_
  refine rg_q (wn_none rfl) (op_ld 2 sc_26 rfl rfl rfl) rfl rfl ?_
  refine rg_q (wn_none rfl) (op_field fld_102_0 rfl) rfl rfl ?_
  refine rg_q (wn_none rfl) (op_lda (L := rootC _) 0 ag_24 rfl rfl (deltaC_af0 _) (by simp [deltaC_len])) rfl rfl ?_
  refine rg_i (wn_none rfl) (os_call cb_31 rfl (fun w s => Place_calls _ _ _  s )) rfl rfl ?_; rintro _ _ ⟨rfl, rfl⟩; refine ⟨[_], rfl, ?_⟩
  refine rg_q (wn_none rfl) (op_assign (v := .int _ _) rfl) rfl rfl ?_
  refine rg_nil_then1 ?_
  refine cd_seq ?_
  refine cd_block ?_
  refine cd_sr ?_
  refine oq (op_move (v := .int _ _) rfl) ?_
  refine oq (op_lt rfl rfl) ?_
  refine oq (op_assign (v := .bool _) rfl) ?_
  refine ol_nil_then ?_
  refine cd_cond rfl (fun hb2 => ?_) (fun hb2 => ?_)
  ·have hp2 := hb2
   (try simp only [bn] at hp2)
   have hno : idxOf t.nodes xs[i].root = none := TreeS.place_none (by omega)
   refine cd_sr ?_
   refine oq (op_assign (v := .slice _ _ _) rfl) ?_
   refine oq (op_assign (v := .int _ _) rfl) ?_
   refine ol_nil_then ?_
   refine cd_ret ?_
   refine px_blockR ?_
   refine px_thenR ?_
   refine px_blockR ?_
   refine px_thenR ?_
   refine px_thenR ?_
   refine px_blockR ?_
   refine px_thenR ?_
   have hnx : nextO t.nodes o xs = 7 := runO_fail hi1 hrun (stepO_none hno) (by decide)
   exact px_ret2 rfl (v1 := .slice none 0 0) (v2 := .int _ 7) (l' := Row 3 encI64 (.slice none ([] : List Int).length 0) [] :: TreeObj pt t :: WRaw pw pt o sm be lf :: l) rfl rfl (fun _ s => Sat.rowNil ((Sat.wrawMk rfl rfl rfl rfl (((((((s.del 2).del 1).pull 5).pull 5).pull 5).pull 5).pull 5)).pull 1)) ⟨[], none, 0, by rw [hnx]; rfl, rfl, fun h => by rw [hnx] at h; cases h⟩
  ·have hp2 := hb2
   (try simp only [bn] at hp2)
   obtain ⟨j0, hij, hpj⟩ := TreeS.place_some (t := t) (r := xs[i].root) (by omega)
   have hjl := idxOf_lt hij
   have hej := hent j0
   rw [oA_get (show j0 < cur.length by omega)] at hej
   refine cd_sr ?_
   refine oq (op_field fld_102_1 rfl) ?_
   refine oq (op_ld 1 sc_3 rfl rfl (deltaC_a32 _)) ?_
   refine oq (op_le rfl rfl) ?_
   refine oq (op_move (v := .bool _) rfl) ?_
   refine ol_split 39 rfl (fun hb3 => ?_) (fun hb3 => ?_)
   ·have hp3 := hb3
    (try simp only [bn] at hp3)
    have hdd : xs[i].n ≤ -4611686018427387904 ∨ 4611686018427387904 ≤ xs[i].n := by omega
    refine ol_skip (wn_some rfl rfl rfl hb3 rfl) rfl ?_
    refine ol_skip (wn_some rfl rfl rfl hb3 rfl) rfl ?_
    refine ol_skip (wn_some rfl rfl rfl hb3 rfl) rfl ?_
    refine oq (op_pick_t (v := .bool _) rfl hb3 rfl) ?_
    refine oq (op_assign (v := .bool _) rfl) ?_
    refine ol_nil_then ?_
    refine cd_cond_t rfl rfl ?_
    refine cd_sr ?_
    refine oq (op_assign (v := .slice _ _ _) rfl) ?_
    refine oq (op_assign (v := .int _ _) rfl) ?_
    refine ol_nil_then ?_
    refine cd_ret ?_
    refine px_blockR ?_
    refine px_thenR ?_
    refine px_blockR ?_
    refine px_thenR ?_
    refine px_thenR ?_
    refine px_blockR ?_
    refine px_thenR ?_
    have hnx : nextO t.nodes o xs = 1 := runO_fail hi1 hrun (stepO_arg hij hdd) (by decide)
    exact px_ret2 rfl (v1 := .slice none 0 0) (v2 := .int _ 1) (l' := Row 3 encI64 (.slice none ([] : List Int).length 0) [] :: TreeObj pt t :: WRaw pw pt o sm be lf :: l) rfl rfl (fun _ s => Sat.rowNil ((Sat.wrawMk rfl rfl rfl rfl (((((((s.del 2).del 1).pull 5).pull 5).pull 5).pull 5).pull 5)).pull 1)) ⟨[], none, 0, by rw [hnx]; rfl, rfl, fun h => by rw [hnx] at h; cases h⟩
   ·have hp3 := hb3
    (try simp only [bn] at hp3)
    refine ol_q (wn_some rfl rfl rfl hb3 rfl) (op_field fld_102_1 rfl) rfl ?_
    refine ol_q (wn_some rfl rfl rfl hb3 rfl) (op_ld 1 sc_3 rfl rfl (deltaC_a32 _)) rfl ?_
    refine ol_q (wn_some rfl rfl rfl hb3 rfl) (op_ge rfl rfl) rfl ?_
    refine oq (op_pick_f (v := .bool _) rfl hb3 rfl) ?_
    refine oq (op_assign (v := .bool _) rfl) ?_
    refine ol_nil_then ?_
    refine cd_cond rfl (fun hb4 => ?_) (fun hb4 => ?_)
    ·have hp4 := hb4
     (try simp only [bn] at hp4)
     have hdd : xs[i].n ≤ -4611686018427387904 ∨ 4611686018427387904 ≤ xs[i].n := by omega
     refine cd_sr ?_
     refine oq (op_assign (v := .slice _ _ _) rfl) ?_
     refine oq (op_assign (v := .int _ _) rfl) ?_
     refine ol_nil_then ?_
     refine cd_ret ?_
     refine px_blockR ?_
     refine px_thenR ?_
     refine px_blockR ?_
     refine px_thenR ?_
     refine px_thenR ?_
     refine px_blockR ?_
     refine px_thenR ?_
     have hnx : nextO t.nodes o xs = 1 := runO_fail hi1 hrun (stepO_arg hij hdd) (by decide)
     exact px_ret2 rfl (v1 := .slice none 0 0) (v2 := .int _ 1) (l' := Row 3 encI64 (.slice none ([] : List Int).length 0) [] :: TreeObj pt t :: WRaw pw pt o sm be lf :: l) rfl rfl (fun _ s => Sat.rowNil ((Sat.wrawMk rfl rfl rfl rfl (((((((s.del 2).del 1).pull 5).pull 5).pull 5).pull 5).pull 5)).pull 1)) ⟨[], none, 0, by rw [hnx]; rfl, rfl, fun h => by rw [hnx] at h; cases h⟩
    ·have hp4 := hb4
     (try simp only [bn] at hp4)
     have hd : ¬ (xs[i].n ≤ -4611686018427387904 ∨ 4611686018427387904 ≤ xs[i].n) := by omega
     have hcj : oA cur j0 = cur[j0] := oA_get (by omega)
     refine cd_skip ?_
     refine px_blockN ?_
     refine px_then ?_
     refine cd_seq ?_
     refine cd_drawt (M := []) mx [2, 3, 7] 8 (by kernel_rfl) rfl rfl ?_
     dsimp only [List.take_succ_cons, List.take_zero, List.drop_succ_cons, List.drop_zero]
     refine rg_q (wn_none rfl) (op_move (v := .slice _ _ _) rfl) rfl rfl ?_
     refine rg_q (wn_none rfl) (op_move (v := .int _ _) rfl) rfl rfl ?_
     refine rg_i (wn_none rfl) (os_q (op_index j0 sB_42 rfl rfl hpj (rds_row 2 rfl rfl) (by simp; omega) (by omega))) rfl rfl ?_; rintro _ _ ⟨rfl, rfl⟩; refine ⟨[], rfl, ?_⟩
     refine rg_i (wn_none rfl) (os_q (op_ldw sc_3 (rds_row 2 rfl rfl) rfl (by omega) rfl)) rfl rfl ?_; rintro _ _ ⟨rfl, rfl⟩; refine ⟨[], rfl, ?_⟩
     refine rg_q (wn_none rfl) (op_field fld_102_1 rfl) rfl rfl ?_
     refine rg_q (wn_none rfl) (op_ld 1 sc_3 rfl rfl (deltaC_a32 _)) rfl rfl ?_
     refine rg_q (wn_none rfl) (op_add rfl rfl (by omega) (by omega)) rfl rfl ?_
     refine rg_i (wn_none rfl) (os_q (op_index j0 sB_42 rfl rfl hpj (rds_row 2 rfl rfl) (by simp; omega) (by omega))) rfl rfl ?_; rintro _ _ ⟨rfl, rfl⟩; refine ⟨[], rfl, ?_⟩
     refine rg_tail0 ?_
     refine ol_pull2 ?_
     refine oN (os_stsw  sc_3 rfl rfl rfl (by omega) rfl rfl) ?_; rintro _ _ ⟨rfl, rfl⟩
     refine ol_nil_then ?_
     refine cd_sr ?_
     refine oq (op_move (v := .slice _ _ _) rfl) ?_
     refine oq (op_move (v := .int _ _) rfl) ?_
     refine oq (op_index j0 sB_42 rfl rfl hpj (rds_row 0 rfl rfl) (by simp; omega) (by rw [List.length_set]; omega)) ?_
     refine oq (op_ldw sc_3 (rds_row 0 rfl rfl) rfl (by rw [List.length_set]; omega) rfl) ?_
     refine oq (op_lt rfl rfl) ?_
     refine oq (op_move (v := .bool _) rfl) ?_
     refine ol_split 57 rfl (fun hb5 => ?_) (fun hb5 => ?_)
     ·have hp5 := hb5
      (try simp only [bn] at hp5)
      have hpS := hp5
      refine ol_skip (wn_some rfl rfl rfl hb5 rfl) rfl ?_
      refine ol_skip (wn_some rfl rfl rfl hb5 rfl) rfl ?_
      refine ol_skip (wn_some rfl rfl rfl hb5 rfl) rfl ?_
      refine ol_skip (wn_some rfl rfl rfl hb5 rfl) rfl ?_
      refine ol_skip (wn_some rfl rfl rfl hb5 rfl) rfl ?_
      refine oq (op_pick_t (v := .bool _) rfl hb5 rfl) ?_
      refine ol_nil_then ?_
      refine cd_cond_t rfl rfl ?_
      refine cd_sr ?_
      refine oq (op_assign (v := .slice _ _ _) rfl) ?_
      refine oq (op_assign (v := .int _ _) rfl) ?_
      refine ol_nil_then ?_
      refine cd_ret ?_
      refine px_blockR ?_
      refine px_thenR ?_
      refine px_thenR ?_
      refine px_blockR ?_
      refine px_thenR ?_
      have hnx : nextO t.nodes o xs = 1 := runO_fail hi1 hrun (stepO_out hij hd (by rw [hcj]; have q9 := hpS; simp only [set_get] at q9; omega)) (by decide)
      exact px_ret2 rfl (v1 := .slice none 0 0) (v2 := .int _ 1) (l' := Row 3 encI64 (.slice none ([] : List Int).length 0) [] :: TreeObj pt t :: WRaw pw pt o sm be lf :: l) rfl rfl (fun _ s => Sat.rowNil ((Sat.wrawMk rfl rfl rfl rfl (((((((s.del 2).del 0).pull 5).pull 5).pull 5).pull 5).pull 5)).pull 1)) ⟨[], none, 0, by rw [hnx]; rfl, rfl, fun h => by rw [hnx] at h; cases h⟩
     ·have hp5 := hb5
      (try simp only [bn] at hp5)
      have hpF := hp5
      refine ol_q (wn_some rfl rfl rfl hb5 rfl) (op_move (v := .slice _ _ _) rfl) rfl ?_
      refine ol_q (wn_some rfl rfl rfl hb5 rfl) (op_move (v := .int _ _) rfl) rfl ?_
      refine ol_q (wn_some rfl rfl rfl hb5 rfl) (op_index j0 sB_42 rfl rfl hpj (rds_row 0 rfl rfl) (by simp; omega) (by rw [List.length_set]; omega)) rfl ?_
      refine ol_q (wn_some rfl rfl rfl hb5 rfl) (op_ldw sc_3 (rds_row 0 rfl rfl) rfl (by rw [List.length_set]; omega) rfl) rfl ?_
      refine ol_q (wn_some rfl rfl rfl hb5 rfl) (op_ge rfl rfl) rfl ?_
      refine oq (op_pick_f (v := .bool _) rfl hb5 rfl) ?_
      refine ol_nil_then ?_
      refine cd_cond rfl (fun hb6 => ?_) (fun hb6 => ?_)
      ·have hp6 := hb6
       (try simp only [bn] at hp6)
       have hpS := hp6
       refine cd_sr ?_
       refine oq (op_assign (v := .slice _ _ _) rfl) ?_
       refine oq (op_assign (v := .int _ _) rfl) ?_
       refine ol_nil_then ?_
       refine cd_ret ?_
       refine px_blockR ?_
       refine px_thenR ?_
       refine px_thenR ?_
       refine px_blockR ?_
       refine px_thenR ?_
       have hnx : nextO t.nodes o xs = 1 := runO_fail hi1 hrun (stepO_out hij hd (by rw [hcj]; have q9 := hpS; simp only [set_get] at q9; omega)) (by decide)
       exact px_ret2 rfl (v1 := .slice none 0 0) (v2 := .int _ 1) (l' := Row 3 encI64 (.slice none ([] : List Int).length 0) [] :: TreeObj pt t :: WRaw pw pt o sm be lf :: l) rfl rfl (fun _ s => Sat.rowNil ((Sat.wrawMk rfl rfl rfl rfl (((((((s.del 2).del 0).pull 5).pull 5).pull 5).pull 5).pull 5)).pull 1)) ⟨[], none, 0, by rw [hnx]; rfl, rfl, fun h => by rw [hnx] at h; cases h⟩
      ·have hp6 := hb6
       (try simp only [bn] at hp6)
       have hst : stepO t.nodes cur xs[i] = (0, cur.set j0 (cur[j0] + xs[i].n)) := by
        rw [stepO_in hij hd (by rw [hcj]; have q9 := hp6; have q8 := hpF; simp only [set_get] at q9 q8; omega), hcj]
       refine cd_skip ?_
       refine px_blockN ?_
       refine px_then ?_
       refine cd_region ?_
       refine oq (op_add rfl rfl (by omega) (by omega)) ?_
       refine oq (op_move (v := .int _ _) rfl) ?_
       refine ol_nil ?_
       refine px_loop2 (i + 1, cur.set j0 (cur[j0] + xs[i].n)) ⟨by dsimp only; omega, runO_go hi1 hrun hst⟩ (by dsimp only; omega) ⟨congrArg (Value.int .i64) (by simp), trivial⟩ ?_ (fun _ s => ((((((((s.del 2).pull 1).pull 6).pull 6).pull 6).pull 6).pull 6).pull 6))
       repeat (first | exact kept_over | refine kept_upd rfl ?_ | refine kept_overS (by decide) ?_)
 ·have hp1 := hb1
  (try simp only [bn] at hp1)
  have hi1 : i = xs.length := by omega
  refine cd_exit ?_
  refine px_thenE ?_
  refine px_thenE ?_
  refine px_blockE ?_
  refine px_then ?_
  refine cd_sr ?_
  refine oq (op_assign (v := .int _ _) rfl) ?_
  refine ol_nil_then ?_
  refine cd_seq ?_
  refine cd_sr ?_
  refine oq (op_move (v := .slice _ _ _) rfl) ?_
  refine oq (op_len_slice Try.underlying42 rfl) ?_
  refine oq (op_move (v := .int _ _) rfl) ?_
  refine ol_nil_then ?_
  refine cd_block ?_
  refine cd_loop2 (α := Nat) [(4, 5), (10, 10), (12, 12), (67, 76)] (fun x => [(10, .int .i64 (4611686018427387903 - sg (oA cur) x)), (67, .int .i64 (x : Int))]) (fun _ => _) (fun x => x ≤ cur.length ∧ sg (oA cur) x ≤ 4611686018427387903) (fun x => cur.length - x) 0 ⟨Nat.zero_le _, by show (0 : Int) ≤ _; decide⟩ ⟨rfl, rfl, trivial⟩ (fun _ s => s) ?_
  rintro j ⟨hj, hj0⟩ f; (try dsimp only at hj hj0 ⊢)
  refine cd_sr ?_
  refine oq (op_lt rfl rfl) ?_
  refine ol_nil_then ?_
  refine cd_seq ?_
  refine cd_cond rfl (fun hb7 => ?_) (fun hb7 => ?_)
  ·have hp7 := hb7
   (try simp only [bn] at hp7)
   have hj1 : j < cur.length := by omega
   have hcv := oA_get hj1
   have hej := hent j
   have hs0 := sg_nonneg (f := oA cur) (m := j) (fun q _ => (hent q).1)
   have hsg := sg_succ (f := oA cur) (m := j)
   refine cd_skip ?_
   refine px_then ?_
   refine cd_seq ?_
   refine cd_block ?_
   refine cd_sr ?_
   refine oq (op_index j sB_42 rfl rfl rfl (rds_row 0 rfl rfl) (by simp; omega) (by omega)) ?_
   refine oq (op_ldw sc_3 (rds_row 0 rfl rfl) rfl (by omega) rfl) ?_
   refine oq (op_assign (v := .int _ _) rfl) ?_
   refine ol_nil_then ?_
   refine cd_sr ?_
   refine oq (op_move (v := .int _ _) rfl) ?_
   refine oq (op_move (v := .int _ _) rfl) ?_
   refine oq (op_sub rfl rfl (by omega) (by omega)) ?_
   refine oq (op_assign (v := .int _ _) rfl) ?_
   refine ol_nil_then ?_
   refine cd_sr ?_
   refine oq (op_move (v := .int _ _) rfl) ?_
   refine oq (op_lt rfl rfl) ?_
   refine ol_nil_then ?_
   refine cd_cond rfl (fun hb8 => ?_) (fun hb8 => ?_)
   ·have hp8 := hb8
    (try simp only [bn] at hp8)
    refine cd_sr ?_
    refine oq (op_assign (v := .slice _ _ _) rfl) ?_
    refine oq (op_assign (v := .int _ _) rfl) ?_
    refine ol_nil_then ?_
    refine cd_ret ?_
    refine px_blockR ?_
    refine px_thenR ?_
    refine px_thenR ?_
    refine px_blockR ?_
    refine px_thenR ?_
    have hnx : nextO t.nodes o xs = 1 := nextO_much (cur := cur) (by have := hrun; rwa [show i = xs.length by omega, List.take_length] at this) (by have := sg_mono (f := oA cur) (m := j + 1) (n := cur.length) (by omega) (fun q _ => (hent q).1); unfold tot; omega)
    exact px_ret2 rfl (v1 := .slice none 0 0) (v2 := .int _ 1) (l' := Row 3 encI64 (.slice none ([] : List Int).length 0) [] :: TreeObj pt t :: WRaw pw pt o sm be lf :: l) rfl rfl (fun _ s => Sat.rowNil ((Sat.wrawMk rfl rfl rfl rfl (s.del 0)).pull 1)) ⟨[], none, 0, by rw [hnx]; rfl, rfl, fun h => by rw [hnx] at h; cases h⟩
   ·have hp8 := hb8
    (try simp only [bn] at hp8)
    refine cd_skip ?_
    refine px_blockN ?_
    refine px_then ?_
    refine cd_region ?_
    refine oq (op_add rfl rfl (by omega) (by omega)) ?_
    refine oq (op_move (v := .int _ _) rfl) ?_
    refine ol_nil ?_
    refine px_loop2 (j + 1) ⟨by omega, by omega⟩ (by (try dsimp only); omega) ⟨congrArg (Value.int .i64) (by omega), congrArg (Value.int .i64) (by simp), trivial⟩ ?_ (fun _ s => s)
    repeat (first | exact kept_over | refine kept_upd rfl ?_ | refine kept_overS (by decide) ?_)
  ·have hp7 := hb7
   (try simp only [bn] at hp7)
   refine cd_exit ?_
   refine px_thenE ?_
   refine px_thenE ?_
   refine px_blockE ?_
   refine px_then ?_
   refine cd_sr ?_
   refine oq (op_move (v := .slice _ _ _) rfl) ?_
   refine oq (op_assign (v := .slice _ _ _) rfl) ?_
   refine oq (op_assign (v := .int _ _) rfl) ?_
   refine ol_nil_then ?_
   refine cd_ret ?_
   have hfin : runO t.nodes o xs = (0, cur) := by have := hrun; rwa [show i = xs.length by omega, List.take_length] at this
   have htt : tot cur < 4611686018427387904 := by unfold tot; rw [show j = cur.length by omega] at hj0; omega
   have hnx : nextO t.nodes o xs = 0 := nextO_ok hfin htt
   exact px_ret2 rfl (v1 := .slice _ _ _) (v2 := .int _ 0) (l' := Row 3 encI64 (.slice ao2 ([] ++ o).length ac2) cur :: TreeObj pt t :: WRaw pw pt o sm be lf :: l) rfl rfl (fun _ s => by
    have s2 : Sat _ _ (WRaw pw pt o sm be lf :: TreeObj pt t :: _ :: l) := Sat.wrawMk rfl rfl rfl rfl ((((((s.pull 6).pull 6).pull 6).pull 6).pull 6).pull 6)
    have s3 := s2.pull 1
    exact s3.pull 2) ⟨cur, _, _, by rw [hnx, hcl0], by rw [hcl0], fun _ => by rw [hfin]⟩
end Go.SL

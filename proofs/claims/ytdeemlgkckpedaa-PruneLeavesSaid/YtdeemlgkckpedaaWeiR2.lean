import Derived.Test.YtdeemlgkckpedaaWeiR
set_option linter.unusedVariables false
set_option linter.unusedSimpArgs false
namespace Go.SL
open Go.Proofs

set_option maxRecDepth 100000 in
set_option maxHeartbeats 1000000 in
theorem RSum_calls {w0 w : World} {l : List HProp} (pm pr : Nat) (t : TreeS) (a1 a2 a3 a4 : Option Addr) (c1 c2 c3 c4 : Nat) (R : List Root) (Sl : List Int) (Pa : List Root) (o : List Int) (d i : Nat) (hs : Sat w0 w ((Blk pr (.cells #[.slice a1 R.length c1, .slice a2 Sl.length c2, .slice a3 Pa.length c3, .int .i64 t.most] 44 (0, 0))) :: (Row 24 encRoot (.slice a1 R.length c1) R) :: (Row 3 encI64 (.slice a2 Sl.length c2) Sl) :: (Row 24 encRoot (.slice a3 Pa.length c3) Pa) :: (Blk pm (.cells #[.pointer (some ⟨pr, 0, none⟩), .slice a4 o.length c4, .int .i64 (o.length : Int)] 47 (0, 0))) :: (Row 3 encI64 (.slice a4 o.length c4) o) :: l)) (hw : t.WF) (hR : RTreeOf t R Sl Pa) (h1 : o.length ≤ t.nodes.length) (hok : OwnOK o) (hd : t.nodes.length - i = d) (hi : i < o.length) :
  Calls Try.prog 81 #[.pointer (some ⟨pm, 0, none⟩), .int .i64 (i : Int)] w (Ret w0 fun v l' => v = .int .i64 (sumN t.nodes o i) ∧ l' = Blk pr (.cells #[.slice a1 R.length c1, .slice a2 Sl.length c2, .slice a3 Pa.length c3, .int .i64 t.most] 44 (0, 0)) :: Row 24 encRoot (.slice a1 R.length c1) R :: Row 3 encI64 (.slice a2 Sl.length c2) Sl :: Row 24 encRoot (.slice a3 Pa.length c3) Pa :: Blk pm (.cells #[.pointer (some ⟨pr, 0, none⟩), .slice a4 o.length c4, .int .i64 (o.length : Int)] 47 (0, 0)) :: Row 3 encI64 (.slice a4 o.length c4) o :: l) := by
 induction d using Nat.strongRecOn generalizing w l i with | _ d ih => ?_
 have hle := hw.le; have hm2 := hw.m2; have hpa := hw.pa; have hnd := hw.nd
 have hRl : R.length = t.nodes.length := by rw [hR.r, List.length_map]
 have hSl : Sl.length = t.nodes.length := by rw [hR.s, List.length_map]
 have hPl : Pa.length = t.nodes.length := by rw [hR.p]; unfold parR; rw [List.length_map]
 have hpl : ∀ r, rplace R r = t.place r := fun r => by rw [hR.r, rplace_map]
 have hrec := sumN_rec hpa hi h1
 have hnn : ∀ k ∈ (kidsI t.nodes o.length i), 0 ≤ sumN t.nodes o k := fun k _ => sumN_nonneg hok.nn
 have htt := hok.tt
 have hto := sumN_tot (ns := t.nodes) (a := i) hok.nn
 have hkl := kidsI_len t.nodes o.length i
 have hoi := hok.ent i
 refine calls_enter Try.func81 rfl rfl rfl hs ?_
 refine cd_sr ?_
 refine oq (op_assign (v := .int _ _) rfl) ?_
 refine ol_nil_then ?_
 refine cd_sr ?_
 refine oq (op_move (v := .pointer _) rfl) ?_
 refine oq (op_nilck rfl) ?_
 refine oq (op_field fld_47_1 rfl) ?_
 refine oq (op_ld 4 sc_42 rfl rfl rfl) ?_
 refine oq (op_move (v := .int _ _) rfl) ?_
 refine oq (op_index i sB_42 rfl rfl rfl (rds_row 5 rfl rfl) rfl (by omega)) ?_
 refine oq (op_ldw sc_3 (rds_row 5 rfl rfl) rfl (by omega) rfl) ?_
 refine oq (op_assign (v := .int _ _) rfl) ?_
 refine ol_nil_then ?_
 refine cd_seq ?_
 rw [← oA_get]
 refine cd_sr ?_
 refine oq (op_move (v := .pointer _) rfl) ?_
 refine oq (op_move (v := .int _ _) rfl) ?_
 refine ol_pull5 ?_
 refine ol_pull5 ?_
 refine ol_pull5 ?_
 refine ol_pull5 ?_
 refine ol_pull5 ?_
 refine ol_pull5 ?_
 refine oi (os_call cb_80 rfl (fun w s => RKidsW_calls _ _ _ _ _ _ _ _ _ _ _ _ _ _ _ _  s (by assumption) (by assumption) (by assumption) (by omega))) ?_; rintro _ _ ⟨ka1, kc1, rfl, rfl⟩
 refine oq (op_len_slice Try.underlying42 rfl) ?_
 refine oq (op_move (v := .int _ _) rfl) ?_
 refine ol_nil_then ?_
 refine cd_block ?_
 refine cd_loop2 (α := Nat) [(5, 5), (7, 7), (19, 28)] (fun x => [(5, .int .i64 (oA o i + (((kidsI t.nodes o.length i).take x).map (sumN t.nodes o)).sum)), (19, .int .i64 (x : Int))]) (fun _ => _) (fun x => x ≤ (castL (kidsI t.nodes o.length i)).length) (fun x => (castL (kidsI t.nodes o.length i)).length - x) 0 (Nat.zero_le _) ⟨congrArg (Value.int .i64) (by rw [List.take_zero]; simp), rfl, trivial⟩ (fun _ s => s) ?_
 rintro j hj f; (try dsimp only at hj ⊢)
 refine cd_sr ?_
 refine oq (op_lt rfl rfl) ?_
 refine ol_nil_then ?_
 refine cd_seq ?_
 refine cd_cond rfl (fun hb1 => ?_) (fun hb1 => ?_)
 ·have hp1 := hb1
  (try simp only [bn] at hp1)
  have hj1 : j < (kidsI t.nodes o.length i).length := by rw [castL_len] at hp1; omega
  have hkg := kidsI_gt hpa (n := o.length) h1 (List.getElem_mem hj1)
  have hs1 := msum_take (S := sumN t.nodes o) (kidsI t.nodes o.length i) hnn j
  have hs2 := msum_take (S := sumN t.nodes o) (kidsI t.nodes o.length i) hnn (j + 1)
  have hs3 := msum_succ (S := sumN t.nodes o) (kidsI t.nodes o.length i) hj1
  refine cd_skip ?_
  refine px_then ?_
  refine cd_seq ?_
  refine cd_block ?_
  refine cd_sr ?_
  refine oq (op_index j sB_42 rfl rfl rfl (rds_row 0 rfl rfl) rfl (by rw [castL_len]; omega)) ?_
  refine oq (op_ldw sc_3 (rds_row 0 rfl rfl) rfl (by rw [castL_len]; omega) rfl) ?_
  refine oq (op_assign (v := .int _ _) rfl) ?_
  refine ol_nil_then ?_
  rw [castL_get (by rw [castL_len]; omega) hj1]
  refine cd_region ?_
  refine oq (op_move (v := .int _ _) rfl) ?_
  refine oq (op_move (v := .pointer _) rfl) ?_
  refine oq (op_move (v := .int _ _) rfl) ?_
  refine ol_pull6 ?_
  refine ol_pull6 ?_
  refine ol_pull6 ?_
  refine ol_pull6 ?_
  refine ol_pull6 ?_
  refine ol_pull6 ?_
  refine oi (os_call cb_81 rfl (fun w s => ih _ (by omega) _   s rfl (by omega))) ?_; rintro _ _ ⟨rfl, rfl⟩
  refine oq (op_add rfl rfl (by omega) (by omega)) ?_
  refine oq (op_assign (v := .int _ _) rfl) ?_
  refine ol_nil ?_
  refine px_blockN ?_
  refine px_then ?_
  refine cd_region ?_
  refine oq (op_add rfl rfl (by omega) (by omega)) ?_
  refine oq (op_move (v := .int _ _) rfl) ?_
  refine ol_nil ?_
  refine px_loop2 (j + 1) (by rw [castL_len]; omega) (by (try dsimp only); rw [castL_len]; omega) ⟨congrArg (Value.int .i64) (by rw [hs3]; omega), congrArg (Value.int .i64) (by simp), trivial⟩ ?_ (fun _ s => (((((((s.pull 5).pull 5).pull 5).pull 5).pull 5).pull 5).pull 6))
  repeat (first | exact kept_over | refine kept_upd rfl ?_ | refine kept_overS (by decide) ?_)
 ·have hp1 := hb1
  (try simp only [bn] at hp1)
  have hj1 : j = (kidsI t.nodes o.length i).length := by rw [castL_len] at hj hp1; omega
  rw [hj1, List.take_length, ← hrec]
  refine cd_exit ?_
  refine px_thenE ?_
  refine px_thenE ?_
  refine px_blockE ?_
  refine px_then ?_
  refine cd_sr ?_
  refine oq (op_move (v := .int _ _) rfl) ?_
  refine oq (op_assign (v := .int _ _) rfl) ?_
  refine ol_nil_then ?_
  refine cd_ret ?_
  exact px_ret1 rfl (v := .int _ _) rfl (fun _ s => (s.del 0)) ⟨rfl, rfl⟩

set_option maxRecDepth 100000 in
set_option maxHeartbeats 1000000 in
theorem RWNew_calls {w0 w : World} {l : List HProp} (pr : Nat) (t : TreeS) (hs : Sat w0 w ((RTreeObj pr t) :: l))  :
  Calls Try.prog 51 #[.pointer (some ⟨pr, 0, none⟩)] w (Ret w0 fun v l' => ∃ pm, v = .pointer (some ⟨pm, 0, none⟩) ∧ l' = RWObj pm pr (growO t.nodes.length []) :: RTreeObj pr t :: l) := by
 obtain ⟨a1, c1, a2, c2, a3, c3, R, Sl, Pa, hw, hR, hs⟩ := hs.rtreeOpen
 have hle := hw.le; have hm2 := hw.m2; have hpa := hw.pa; have hnd := hw.nd
 have hRl : R.length = t.nodes.length := by rw [hR.r, List.length_map]
 have hSl : Sl.length = t.nodes.length := by rw [hR.s, List.length_map]
 have hPl : Pa.length = t.nodes.length := by rw [hR.p]; unfold parR; rw [List.length_map]
 have hpl : ∀ r, rplace R r = t.place r := fun r => by rw [hR.r, rplace_map]
 refine calls_enter Try.func51 rfl rfl rfl hs ?_
 refine cd_sr ?_
 refine oq (op_assign (v := .pointer _) rfl) ?_
 refine ol_nil_then ?_
 refine cd_seq ?_
 refine cd_drawt (M := []) mx [6] 13 (by kernel_rfl) rfl rfl ?_
 dsimp only [List.take_succ_cons, List.take_zero, List.drop_succ_cons, List.drop_zero]
 refine rg_q (wn_none rfl) (op_move (v := .pointer _) rfl) rfl rfl ?_
 refine rg_q (wn_none rfl) (op_move (v := .pointer _) rfl) rfl rfl ?_
 refine rg_q (wn_none rfl) (op_nilck rfl) rfl rfl ?_
 refine rg_q (wn_none rfl) (op_field fld_44_0 rfl) rfl rfl ?_
 refine rg_q (wn_none rfl) (op_ld 0 sc_37 rfl rfl rfl) rfl rfl ?_
 refine rg_q (wn_none rfl) (op_len_slice Try.underlying37 rfl) rfl rfl ?_
 refine rg_i (wn_none rfl) (os_make (E := encI64) (R.length) (0) sB_42 zv_3 rfl rfl rfl rfl (by omega) (by unfold maxLen; omega)) rfl rfl ?_; rintro _ _ ⟨ao1, rfl, rfl⟩; refine ⟨[_], rfl, ?_⟩
 refine rg_q (wn_none rfl) (op_move (v := .pointer _) rfl) rfl rfl ?_
 refine rg_q (wn_none rfl) (op_nilck rfl) rfl rfl ?_
 refine rg_q (wn_none rfl) (op_field fld_44_0 rfl) rfl rfl ?_
 refine rg_q (wn_none rfl) (op_ld 0 sc_37 rfl rfl rfl) rfl rfl ?_
 refine rg_q (wn_none rfl) (op_len_slice Try.underlying37 rfl) rfl rfl ?_
 refine rg_q (wn_none rfl) (op_build (L := [_, _, _]) (vs := [(0, .pointer _), (1, .slice _ _ _), (2, .int _ _)]) bB_47 rfl ⟨⟨rfl, rfl⟩, ⟨rfl, rfl⟩, ⟨rfl, rfl⟩, trivial⟩ rfl) rfl rfl ?_
 refine rg_tail1 ?_
 refine oi (os_boxa rfl) ?_; rintro _ _ ⟨bx1, rfl, rfl⟩
 refine oq (op_assign (v := .pointer _) rfl) ?_
 refine ol_nil_then ?_
 refine cd_ret ?_
 exact px_ret1 rfl (v := .pointer _) (l' := RWObj bx1 pr (growO t.nodes.length []) :: RTreeObj pr t :: l) rfl (fun _ s => by
  have s2 : Sat _ _ (Blk pr (.cells #[.slice a1 R.length c1, .slice a2 Sl.length c2, .slice a3 Pa.length c3, .int .i64 t.most] 44 (0, 0)) :: Row 24 encRoot (.slice a1 R.length c1) R :: Row 3 encI64 (.slice a2 Sl.length c2) Sl :: Row 24 encRoot (.slice a3 Pa.length c3) Pa :: Blk bx1 _ :: Row _ _ _ _ :: l) := ((((((s.pull 1).pull 1).pull 5).pull 5).pull 5).pull 5)
  have s3 := Sat.rtreeMk hw hR rfl rfl rfl s2
  have s4 : Sat _ _ (RWObj bx1 pr (growO t.nodes.length []) :: RTreeObj pr t :: l) := Sat.rwMk (m1 := (List.replicate R.length (0 : Int)).length) (m2 := R.length) (by rw [hRl]; simp [growO]) (by rw [hRl]; simp [growO]) (by have s5 := (s3.pull 2).pull 2; rw [show growO t.nodes.length [] = List.replicate R.length 0 by rw [hRl]; rfl]; exact s5)
  exact s4) ⟨_, rfl, rfl⟩

set_option maxRecDepth 100000 in
set_option maxHeartbeats 1000000 in
theorem ROwnOf_calls {w0 w : World} {l : List HProp} (pm pr : Nat) (t : TreeS) (o : List Int) (r : Root) (hs : Sat w0 w ((RTreeObj pr t) :: (RWObj pm pr o) :: l)) (h1 : o.length ≤ t.nodes.length) (hok : OwnOK o) :
  Calls Try.prog 27 #[.pointer (some ⟨pm, 0, none⟩), .agg (rootC r).toArray] w (Ret w0 fun v l' => v = .int .i64 (ofF t o.length (oA o) r) ∧ l' = RTreeObj pr t :: RWObj pm pr o :: l) := by
 have hne := hs.rtreeWF.ne
 obtain ⟨a1, c1, a2, c2, a3, c3, R, Sl, Pa, hw, hR, hs⟩ := hs.rtreeOpen
 obtain ⟨a4, c4, hs⟩ := (hs.pull 4).rwOpen
 have hle := hw.le; have hm2 := hw.m2; have hpa := hw.pa; have hnd := hw.nd
 have hRl : R.length = t.nodes.length := by rw [hR.r, List.length_map]
 have hSl : Sl.length = t.nodes.length := by rw [hR.s, List.length_map]
 have hPl : Pa.length = t.nodes.length := by rw [hR.p]; unfold parR; rw [List.length_map]
 have hpl : ∀ r, rplace R r = t.place r := fun r => by rw [hR.r, rplace_map]
 have hrp := ofF_rpl (t := t) (n := o.length) (f := (oA o)) (r := r)
 refine calls_enter Try.func27 rfl rfl rfl hs ?_
 refine cd_sr ?_
 refine oi (os_boxa rfl) ?_; rintro _ _ ⟨bx1, rfl, rfl⟩
 refine oq (op_assign (v := .int _ _) rfl) ?_
 refine ol_nil_then ?_
 refine cd_seq ?_
 refine cd_sr ?_
 refine oq (op_move (v := .pointer _) rfl) ?_
 refine oq (op_lda (L := rootC _) 0 ag_24 rfl rfl (rootC_take' _) (by simp [rootC_len])) ?_
 refine ol_pull2 ?_
 refine ol_pull2 ?_
 refine ol_pull6 ?_
 refine ol_pull6 ?_
 refine ol_pull6 ?_
 refine ol_pull6 ?_
 refine oi (os_call cb_59 rfl (fun w s => RplW_calls _ _ _ _ _ _ _ _ _ _ _ _ _ _ _ _  s (by assumption) (by assumption) (by assumption))) ?_; rintro _ _ ⟨rfl, rfl⟩
 refine oq (op_assign (v := .int _ _) rfl) ?_
 refine ol_nil_then ?_
 refine cd_sr ?_
 refine oq (op_move (v := .int _ _) rfl) ?_
 refine oq (op_ge rfl rfl) ?_
 refine ol_nil_then ?_
 refine cd_cond rfl (fun hb1 => ?_) (fun hb1 => ?_)
 ·have hp1 := hb1
  (try simp only [bn] at hp1)
  obtain ⟨i, hri, hin, hof⟩ : ∃ i : Nat, rplW t o.length r = i ∧ i < o.length ∧ ofF t o.length (oA o) r = (oA o) i := by
   rcases hrp with ⟨h, _⟩ | h
   ·omega
   ·exact h
  rw [hri]
  refine cd_sr ?_
  refine oq (op_move (v := .pointer _) rfl) ?_
  refine oq (op_nilck rfl) ?_
  refine oq (op_field fld_47_1 rfl) ?_
  refine oq (op_ld 4 sc_42 rfl rfl rfl) ?_
  refine oq (op_move (v := .int _ _) rfl) ?_
  refine oq (op_index i sB_42 rfl rfl rfl (rds_row 5 rfl rfl) rfl (by omega)) ?_
  refine oq (op_ldw sc_3 (rds_row 5 rfl rfl) rfl (by omega) rfl) ?_
  refine oq (op_assign (v := .int _ _) rfl) ?_
  refine ol_nil_then ?_
  refine cd_ret ?_
  refine px_thenR ?_
  exact px_ret1 rfl (v := .int _ _) (l' := RTreeObj pr t :: RWObj pm pr o :: l) rfl (fun _ s => (by
   have s2 : Sat _ _ (RWObj pm pr o :: Blk pr (.cells #[.slice a1 R.length c1, .slice a2 Sl.length c2, .slice a3 Pa.length c3, .int .i64 t.most] 44 (0, 0)) :: Row 24 encRoot (.slice a1 R.length c1) R :: Row 3 encI64 (.slice a2 Sl.length c2) Sl :: Row 24 encRoot (.slice a3 Pa.length c3) Pa :: l) := Sat.rwMk rfl rfl (((((((s.del 6).pull 3).pull 3).pull 3).pull 3).pull 5).pull 5)
   have s3 : Sat _ _ (Blk pr (.cells #[.slice a1 R.length c1, .slice a2 Sl.length c2, .slice a3 Pa.length c3, .int .i64 t.most] 44 (0, 0)) :: Row 24 encRoot (.slice a1 R.length c1) R :: Row 3 encI64 (.slice a2 Sl.length c2) Sl :: Row 24 encRoot (.slice a3 Pa.length c3) Pa :: RWObj pm pr o :: l) := (((s2.pull 4).pull 4).pull 4).pull 4
   exact Sat.rtreeMk hw hR rfl rfl rfl s3)) ⟨congrArg (Value.int .i64) (by rw [hof]; exact (oA_get _).symm), rfl⟩
 ·have hp1 := hb1
  (try simp only [bn] at hp1)
  refine cd_skip ?_
  refine px_then ?_
  refine cd_sr ?_
  refine oq (op_assign (v := .int _ _) rfl) ?_
  refine ol_nil_then ?_
  refine cd_ret ?_
  exact px_ret1 rfl (v := .int _ _) (l' := RTreeObj pr t :: RWObj pm pr o :: l) rfl (fun _ s => (by
   have s2 : Sat _ _ (RWObj pm pr o :: Blk pr (.cells #[.slice a1 R.length c1, .slice a2 Sl.length c2, .slice a3 Pa.length c3, .int .i64 t.most] 44 (0, 0)) :: Row 24 encRoot (.slice a1 R.length c1) R :: Row 3 encI64 (.slice a2 Sl.length c2) Sl :: Row 24 encRoot (.slice a3 Pa.length c3) Pa :: l) := Sat.rwMk rfl rfl (((((((s.del 6).pull 3).pull 3).pull 3).pull 3).pull 5).pull 5)
   have s3 : Sat _ _ (Blk pr (.cells #[.slice a1 R.length c1, .slice a2 Sl.length c2, .slice a3 Pa.length c3, .int .i64 t.most] 44 (0, 0)) :: Row 24 encRoot (.slice a1 R.length c1) R :: Row 3 encI64 (.slice a2 Sl.length c2) Sl :: Row 24 encRoot (.slice a3 Pa.length c3) Pa :: RWObj pm pr o :: l) := (((s2.pull 4).pull 4).pull 4).pull 4
   exact Sat.rtreeMk hw hR rfl rfl rfl s3)) ⟨congrArg (Value.int .i64) (by rcases hrp with ⟨_, h⟩ | ⟨i, h, _⟩; exact h.symm; omega), rfl⟩
end Go.SL

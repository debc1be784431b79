import Derived.Test.YtdeemlgkckpedaaWeiR4
set_option linter.unusedVariables false
set_option linter.unusedSimpArgs false
namespace Go.SL
open Go.Proofs

set_option maxRecDepth 100000 in
set_option maxHeartbeats 1000000 in
theorem RHeadW_calls {w0 w : World} {l : List HProp} (pm pr : Nat) (t : TreeS) (o : List Int) (hs : Sat w0 w ((RTreeObj pr t) :: (RWObj pm pr o) :: l)) (h1 : o.length ≤ t.nodes.length) (hok : OwnOK o) (h0 : 0 < o.length) :
  Calls Try.prog 23 #[.pointer (some ⟨pm, 0, none⟩)] w (Ret w0 fun v l' => v = .agg (rootC (headW t.nodes o)).toArray ∧ l' = RTreeObj pr t :: RWObj pm pr o :: l) := by
 have hne := hs.rtreeWF.ne
 obtain ⟨a1, c1, a2, c2, a3, c3, R, Sl, Pa, hw, hR, hs⟩ := hs.rtreeOpen
 obtain ⟨a4, c4, hs⟩ := (hs.pull 4).rwOpen
 have hle := hw.le; have hm2 := hw.m2; have hpa := hw.pa; have hnd := hw.nd
 have hRl : R.length = t.nodes.length := by rw [hR.r, List.length_map]
 have hSl : Sl.length = t.nodes.length := by rw [hR.s, List.length_map]
 have hPl : Pa.length = t.nodes.length := by rw [hR.p]; unfold parR; rw [List.length_map]
 have hpl : ∀ r, rplace R r = t.place r := fun r => by rw [hR.r, rplace_map]
 have hR0 : R[0]'(by omega) = rtA t.nodes 0 := by simp only [hR.r, List.getElem_map]; exact (rtA_get (by omega)).symm
 refine calls_enter Try.func23 rfl rfl rfl hs ?_
 refine cd_sr ?_
 refine oi (os_alloc (cs := (rootC Root.zero).toArray) zB_24 (by kernel_rfl)) ?_; rintro _ _ ⟨bx1, rfl, rfl⟩
 refine ol_nil_then ?_
 refine cd_sr ?_
 refine oq (op_move (v := .pointer _) rfl) ?_
 refine oq (op_nilck rfl) ?_
 refine oq (op_field fld_47_0 rfl) ?_
 refine oq (op_ld 1 sc_45 rfl rfl rfl) ?_
 refine oq (op_nilck rfl) ?_
 refine oq (op_field fld_44_0 rfl) ?_
 refine oq (op_ld 3 sc_37 rfl rfl rfl) ?_
 refine oq (op_index 0 sB_37 rfl rfl rfl (rds_row 4 rfl rfl) rfl (by omega)) ?_
 refine oq (op_ldaw (L := rootC _) ag_24 (rds_row 4 rfl rfl) rfl (by omega) rfl (rootC_ta _)) ?_
 refine oi (os_alloc (cs := (rootC Root.zero).toArray) zB_24 (by kernel_rfl)) ?_; rintro _ _ ⟨bx2, rfl, rfl⟩
 refine oN (os_storera _ ag_24 rfl rfl (Free.zero _)) ?_; rintro _ _ ⟨rfl, rfl⟩
 refine ol_nil_then ?_
 refine cd_block ?_
 rw [hR0]
 refine cd_imp (l' := RTreeObj pr t :: RWObj pm pr o :: Blk bx2 (.cells (rootC (rtA t.nodes 0)).toArray 24 (0, 0)) :: Blk bx1 (.cells (rootC Root.zero).toArray 24 (0, 0)) :: l) (fun _ s => by
  have s2 : Sat _ _ (RWObj pm pr o :: Blk pr (.cells #[.slice a1 R.length c1, .slice a2 Sl.length c2, .slice a3 Pa.length c3, .int .i64 t.most] 44 (0, 0)) :: Row 24 encRoot (.slice a1 R.length c1) R :: Row 3 encI64 (.slice a2 Sl.length c2) Sl :: Row 24 encRoot (.slice a3 Pa.length c3) Pa :: Blk bx2 (.cells (rootC (rtA t.nodes 0)).toArray 24 (0, 0)) :: Blk bx1 (.cells (rootC Root.zero).toArray 24 (0, 0)) :: l) := Sat.rwMk rfl rfl ((((((((s.pull 1).pull 1).pull 7).pull 7).pull 7).pull 7).pull 7).pull 7)
  have s3 : Sat _ _ (Blk pr (.cells #[.slice a1 R.length c1, .slice a2 Sl.length c2, .slice a3 Pa.length c3, .int .i64 t.most] 44 (0, 0)) :: Row 24 encRoot (.slice a1 R.length c1) R :: Row 3 encI64 (.slice a2 Sl.length c2) Sl :: Row 24 encRoot (.slice a3 Pa.length c3) Pa :: RWObj pm pr o :: Blk bx2 (.cells (rootC (rtA t.nodes 0)).toArray 24 (0, 0)) :: Blk bx1 (.cells (rootC Root.zero).toArray 24 (0, 0)) :: l) := (((s2.pull 4).pull 4).pull 4).pull 4
  exact Sat.rtreeMk hw hR rfl rfl rfl s3) ?_
 refine cd_loop2 (α := Nat) [(4, 5), (15, 24)] (fun x => []) (fun x => RTreeObj pr t :: RWObj pm pr o :: Blk bx2 (.cells (rootC (rtA t.nodes x)).toArray 24 (0, 0)) :: _) (fun x => x < o.length ∧ leafN t.nodes (oA (sumL t.nodes o)) o.length x = leafN t.nodes (oA (sumL t.nodes o)) o.length 0) (fun x => o.length - x) 0 ⟨h0, rfl⟩ trivial (fun _ s => s) ?_
 rintro k ⟨hk, hlk⟩ f; (try dsimp only at hk hlk ⊢)
 have hik : idxOf t.nodes (rtA t.nodes k) = some k := by rw [rtA_get (by omega)]; exact idxOf_get hnd (List.getElem?_eq_getElem (by omega))
 refine cd_block ?_
 rcases bestN_rg hnd hpa (oA (sumL t.nodes o)) h1 k with hbk | ⟨q, hbk, hkq, hqn, _⟩
 ·
  have hR1 : bestR t o (rtA t.nodes k) = (Root.zero, false) := bestR_no (by unfold bestI ofF; rw [hik]; dsimp only; rw [if_pos hk]; omega)
  refine cd_sr ?_
  refine oq (op_move (v := .pointer _) rfl) ?_
  refine oq (op_lda (L := rootC _) 2 ag_24 rfl rfl (rootC_take' _) (by simp [rootC_len])) ?_
  refine ol_pull1 ?_
  refine ol_pull1 ?_
  refine oi (os_call cb_56 rfl (fun w s => RBestW_calls _ _ _ _ _  s (by first | assumption | omega) (by assumption))) ?_; rintro _ _ ⟨rfl, rfl⟩; rw [hR1]
  refine oq (op_move (v := .tuple _) rfl) ?_
  refine oq (op_extract (v := .agg _) rfl rfl) ?_
  refine oq (op_extract (v := .bool _) rfl rfl) ?_
  refine oi (os_alloc (cs := (rootC Root.zero).toArray) zB_24 (by kernel_rfl)) ?_; rintro _ _ ⟨bx3, rfl, rfl⟩
  refine oN (os_storera _ ag_24 rfl rfl (Free.zero _)) ?_; rintro _ _ ⟨rfl, rfl⟩
  refine oq (op_assign (v := .bool _) rfl) ?_
  refine ol_nil_then ?_
  refine cd_seq ?_
  refine cd_sr ?_
  refine oq (op_move (v := .bool _) rfl) ?_
  refine oq (op_not rfl) ?_
  refine ol_nil_then ?_
  refine cd_cond rfl (fun hb1 => ?_) (fun hb1 => ?_)
  ·have hp1 := hb1
   (try simp only [bn] at hp1)
   refine cd_sr ?_
   refine oq (op_lda (L := rootC _) 3 ag_24 rfl rfl (rootC_take' _) (by simp [rootC_len])) ?_
   refine ol_pull4 ?_
   refine oN (os_storera _ ag_24 rfl rfl (Free.zero _)) ?_; rintro _ _ ⟨rfl, rfl⟩
   refine ol_nil_then ?_
   refine cd_ret ?_
   refine px_thenR ?_
   refine px_blockR ?_
   refine px_thenR ?_
   refine px_blockR ?_
   have hlf : leafN t.nodes (oA (sumL t.nodes o)) o.length 0 = k := by rw [← hlk]; exact leafN_no _ (by omega)
   exact px_rv1 rfl (rv_cella 0 ag_24 rfl rfl (rootC_take' _) (by simp [rootC_len])) (l' := RTreeObj pr t :: RWObj pm pr o :: l) (fun _ s => (((s.del 4).del 1).del 0)) ⟨by unfold headW; rw [hlf], rfl⟩
  ·have hp1 := hb1
   (try simp only [bn] at hp1)
   exact absurd hb1 (by simp)
 ·
  have hR1 : bestR t o (rtA t.nodes k) = (rtA t.nodes q, true) := bestR_yes (by unfold bestI ofF; rw [hik]; dsimp only; rw [if_pos hk]; omega)
  refine cd_sr ?_
  refine oq (op_move (v := .pointer _) rfl) ?_
  refine oq (op_lda (L := rootC _) 2 ag_24 rfl rfl (rootC_take' _) (by simp [rootC_len])) ?_
  refine ol_pull1 ?_
  refine ol_pull1 ?_
  refine oi (os_call cb_56 rfl (fun w s => RBestW_calls _ _ _ _ _  s (by first | assumption | omega) (by assumption))) ?_; rintro _ _ ⟨rfl, rfl⟩; rw [hR1]
  refine oq (op_move (v := .tuple _) rfl) ?_
  refine oq (op_extract (v := .agg _) rfl rfl) ?_
  refine oq (op_extract (v := .bool _) rfl rfl) ?_
  refine oi (os_alloc (cs := (rootC Root.zero).toArray) zB_24 (by kernel_rfl)) ?_; rintro _ _ ⟨bx4, rfl, rfl⟩
  refine oN (os_storera _ ag_24 rfl rfl (Free.zero _)) ?_; rintro _ _ ⟨rfl, rfl⟩
  refine oq (op_assign (v := .bool _) rfl) ?_
  refine ol_nil_then ?_
  refine cd_seq ?_
  refine cd_sr ?_
  refine oq (op_move (v := .bool _) rfl) ?_
  refine oq (op_not rfl) ?_
  refine ol_nil_then ?_
  refine cd_cond rfl (fun hb2 => ?_) (fun hb2 => ?_)
  ·have hp2 := hb2
   (try simp only [bn] at hp2)
   exact absurd hb2 (by simp)
  ·have hp2 := hb2
   (try simp only [bn] at hp2)
   refine cd_skip ?_
   refine px_then ?_
   refine cd_region ?_
   refine oq (op_lda (L := rootC _) 0 ag_24 rfl rfl (rootC_take' _) (by simp [rootC_len])) ?_
   refine ol_pull3 ?_
   refine oN (os_storera _ ag_24 rfl rfl (Free.zero _)) ?_; rintro _ _ ⟨rfl, rfl⟩
   refine ol_nil ?_
   refine px_blockN ?_
   refine px_loop2 q ⟨hqn, by rw [← leafN_yes hnd hpa h1 hbk]; exact hlk⟩ (by (try dsimp only); omega) trivial ?_ (fun _ s => (((((s.del 1).pull 3).pull 1).pull 3).pull 3))
   repeat (first | exact kept_over | refine kept_upd rfl ?_ | refine kept_overS (by decide) ?_)

set_option maxRecDepth 100000 in
set_option maxHeartbeats 1000000 in
theorem RHeadWO_calls {w0 w : World} {l : List HProp} (pm pr : Nat) (t : TreeS) (a1 a2 a3 a4 : Option Addr) (c1 c2 c3 c4 : Nat) (R : List Root) (Sl : List Int) (Pa : List Root) (o : List Int) (hs : Sat w0 w ((Blk pr (.cells #[.slice a1 R.length c1, .slice a2 Sl.length c2, .slice a3 Pa.length c3, .int .i64 t.most] 44 (0, 0))) :: (Row 24 encRoot (.slice a1 R.length c1) R) :: (Row 3 encI64 (.slice a2 Sl.length c2) Sl) :: (Row 24 encRoot (.slice a3 Pa.length c3) Pa) :: (Blk pm (.cells #[.pointer (some ⟨pr, 0, none⟩), .slice a4 o.length c4, .int .i64 (o.length : Int)] 47 (0, 0))) :: (Row 3 encI64 (.slice a4 o.length c4) o) :: l)) (hw : t.WF) (hR : RTreeOf t R Sl Pa) (h1 : o.length ≤ t.nodes.length) (hok : OwnOK o) (h0 : 0 < o.length) :
  Calls Try.prog 23 #[.pointer (some ⟨pm, 0, none⟩)] w (Ret w0 fun v l' => v = .agg (rootC (headW t.nodes o)).toArray ∧ l' = Blk pr (.cells #[.slice a1 R.length c1, .slice a2 Sl.length c2, .slice a3 Pa.length c3, .int .i64 t.most] 44 (0, 0)) :: Row 24 encRoot (.slice a1 R.length c1) R :: Row 3 encI64 (.slice a2 Sl.length c2) Sl :: Row 24 encRoot (.slice a3 Pa.length c3) Pa :: Blk pm (.cells #[.pointer (some ⟨pr, 0, none⟩), .slice a4 o.length c4, .int .i64 (o.length : Int)] 47 (0, 0)) :: Row 3 encI64 (.slice a4 o.length c4) o :: l) := by
 have hne := hw.ne
 have hle := hw.le; have hm2 := hw.m2; have hpa := hw.pa; have hnd := hw.nd
 have hRl : R.length = t.nodes.length := by rw [hR.r, List.length_map]
 have hSl : Sl.length = t.nodes.length := by rw [hR.s, List.length_map]
 have hPl : Pa.length = t.nodes.length := by rw [hR.p]; unfold parR; rw [List.length_map]
 have hpl : ∀ r, rplace R r = t.place r := fun r => by rw [hR.r, rplace_map]
 have hR0 : R[0]'(by omega) = rtA t.nodes 0 := by simp only [hR.r, List.getElem_map]; exact (rtA_get (by omega)).symm
 refine calls_enter Try.func23 rfl rfl rfl hs ?_
 refine cd_sr ?_
 refine oi (os_alloc (cs := (rootC Root.zero).toArray) zB_24 (by kernel_rfl)) ?_; rintro _ _ ⟨bx1, rfl, rfl⟩
 refine ol_nil_then ?_
 refine cd_sr ?_
 refine oq (op_move (v := .pointer _) rfl) ?_
 refine oq (op_nilck rfl) ?_
 refine oq (op_field fld_47_0 rfl) ?_
 refine oq (op_ld 5 sc_45 rfl rfl rfl) ?_
 refine oq (op_nilck rfl) ?_
 refine oq (op_field fld_44_0 rfl) ?_
 refine oq (op_ld 1 sc_37 rfl rfl rfl) ?_
 refine oq (op_index 0 sB_37 rfl rfl rfl (rds_row 2 rfl rfl) rfl (by omega)) ?_
 refine oq (op_ldaw (L := rootC _) ag_24 (rds_row 2 rfl rfl) rfl (by omega) rfl (rootC_ta _)) ?_
 refine oi (os_alloc (cs := (rootC Root.zero).toArray) zB_24 (by kernel_rfl)) ?_; rintro _ _ ⟨bx2, rfl, rfl⟩
 refine oN (os_storera _ ag_24 rfl rfl (Free.zero _)) ?_; rintro _ _ ⟨rfl, rfl⟩
 refine ol_nil_then ?_
 refine cd_block ?_
 rw [hR0]
 refine cd_pull1 ?_
 refine cd_pull1 ?_
 refine cd_pull7 ?_
 refine cd_pull7 ?_
 refine cd_pull7 ?_
 refine cd_pull7 ?_
 refine cd_pull7 ?_
 refine cd_pull7 ?_
 refine cd_loop2 (α := Nat) [(4, 5), (15, 24)] (fun x => []) (fun x => Blk pr (.cells #[.slice a1 R.length c1, .slice a2 Sl.length c2, .slice a3 Pa.length c3, .int .i64 t.most] 44 (0, 0)) :: Row 24 encRoot (.slice a1 R.length c1) R :: Row 3 encI64 (.slice a2 Sl.length c2) Sl :: Row 24 encRoot (.slice a3 Pa.length c3) Pa :: Blk pm (.cells #[.pointer (some ⟨pr, 0, none⟩), .slice a4 o.length c4, .int .i64 (o.length : Int)] 47 (0, 0)) :: Row 3 encI64 (.slice a4 o.length c4) o :: Blk bx2 (.cells (rootC (rtA t.nodes x)).toArray 24 (0, 0)) :: _) (fun x => x < o.length ∧ leafN t.nodes (oA (sumL t.nodes o)) o.length x = leafN t.nodes (oA (sumL t.nodes o)) o.length 0) (fun x => o.length - x) 0 ⟨h0, rfl⟩ trivial (fun _ s => s) ?_
 rintro k ⟨hk, hlk⟩ f; (try dsimp only at hk hlk ⊢)
 have hik : idxOf t.nodes (rtA t.nodes k) = some k := by rw [rtA_get (by omega)]; exact idxOf_get hnd (List.getElem?_eq_getElem (by omega))
 refine cd_block ?_
 rcases bestN_rg hnd hpa (oA (sumL t.nodes o)) h1 k with hbk | ⟨q, hbk, hkq, hqn, _⟩
 ·
  have hR1 : bestR t o (rtA t.nodes k) = (Root.zero, false) := bestR_no (by unfold bestI ofF; rw [hik]; dsimp only; rw [if_pos hk]; omega)
  refine cd_sr ?_
  refine oq (op_move (v := .pointer _) rfl) ?_
  refine oq (op_lda (L := rootC _) 6 ag_24 rfl rfl (rootC_take' _) (by simp [rootC_len])) ?_
  refine ol_pull5 ?_
  refine ol_pull5 ?_
  refine ol_pull5 ?_
  refine ol_pull5 ?_
  refine ol_pull5 ?_
  refine ol_pull5 ?_
  refine oi (os_call cb_56 rfl (fun w s => RBestWO_calls _ _ _ _ _ _ _ _ _ _ _ _ _ _ _ _  s (by assumption) (by assumption) (by assumption) (by assumption))) ?_; rintro _ _ ⟨rfl, rfl⟩; rw [hR1]
  refine oq (op_move (v := .tuple _) rfl) ?_
  refine oq (op_extract (v := .agg _) rfl rfl) ?_
  refine oq (op_extract (v := .bool _) rfl rfl) ?_
  refine oi (os_alloc (cs := (rootC Root.zero).toArray) zB_24 (by kernel_rfl)) ?_; rintro _ _ ⟨bx3, rfl, rfl⟩
  refine oN (os_storera _ ag_24 rfl rfl (Free.zero _)) ?_; rintro _ _ ⟨rfl, rfl⟩
  refine oq (op_assign (v := .bool _) rfl) ?_
  refine ol_nil_then ?_
  refine cd_seq ?_
  refine cd_sr ?_
  refine oq (op_move (v := .bool _) rfl) ?_
  refine oq (op_not rfl) ?_
  refine ol_nil_then ?_
  refine cd_cond rfl (fun hb1 => ?_) (fun hb1 => ?_)
  ·have hp1 := hb1
   (try simp only [bn] at hp1)
   refine cd_sr ?_
   refine oq (op_lda (L := rootC _) 7 ag_24 rfl rfl (rootC_take' _) (by simp [rootC_len])) ?_
   refine ol_pull8 ?_
   refine oN (os_storera _ ag_24 rfl rfl (Free.zero _)) ?_; rintro _ _ ⟨rfl, rfl⟩
   refine ol_nil_then ?_
   refine cd_ret ?_
   refine px_thenR ?_
   refine px_blockR ?_
   refine px_thenR ?_
   refine px_blockR ?_
   have hlf : leafN t.nodes (oA (sumL t.nodes o)) o.length 0 = k := by rw [← hlk]; exact leafN_no _ (by omega)
   exact px_rv1 rfl (rv_cella 0 ag_24 rfl rfl (rootC_take' _) (by simp [rootC_len]))  (fun _ s => (((s.del 8).del 1).del 0)) ⟨by unfold headW; rw [hlf], rfl⟩
  ·have hp1 := hb1
   (try simp only [bn] at hp1)
   exact absurd hb1 (by simp)
 ·
  have hR1 : bestR t o (rtA t.nodes k) = (rtA t.nodes q, true) := bestR_yes (by unfold bestI ofF; rw [hik]; dsimp only; rw [if_pos hk]; omega)
  refine cd_sr ?_
  refine oq (op_move (v := .pointer _) rfl) ?_
  refine oq (op_lda (L := rootC _) 6 ag_24 rfl rfl (rootC_take' _) (by simp [rootC_len])) ?_
  refine ol_pull5 ?_
  refine ol_pull5 ?_
  refine ol_pull5 ?_
  refine ol_pull5 ?_
  refine ol_pull5 ?_
  refine ol_pull5 ?_
  refine oi (os_call cb_56 rfl (fun w s => RBestWO_calls _ _ _ _ _ _ _ _ _ _ _ _ _ _ _ _  s (by assumption) (by assumption) (by assumption) (by assumption))) ?_; rintro _ _ ⟨rfl, rfl⟩; rw [hR1]
  refine oq (op_move (v := .tuple _) rfl) ?_
  refine oq (op_extract (v := .agg _) rfl rfl) ?_
  refine oq (op_extract (v := .bool _) rfl rfl) ?_
  refine oi (os_alloc (cs := (rootC Root.zero).toArray) zB_24 (by kernel_rfl)) ?_; rintro _ _ ⟨bx4, rfl, rfl⟩
  refine oN (os_storera _ ag_24 rfl rfl (Free.zero _)) ?_; rintro _ _ ⟨rfl, rfl⟩
  refine oq (op_assign (v := .bool _) rfl) ?_
  refine ol_nil_then ?_
  refine cd_seq ?_
  refine cd_sr ?_
  refine oq (op_move (v := .bool _) rfl) ?_
  refine oq (op_not rfl) ?_
  refine ol_nil_then ?_
  refine cd_cond rfl (fun hb2 => ?_) (fun hb2 => ?_)
  ·have hp2 := hb2
   (try simp only [bn] at hp2)
   exact absurd hb2 (by simp)
  ·have hp2 := hb2
   (try simp only [bn] at hp2)
   refine cd_skip ?_
   refine px_then ?_
   refine cd_region ?_
   refine oq (op_lda (L := rootC _) 0 ag_24 rfl rfl (rootC_take' _) (by simp [rootC_len])) ?_
   refine ol_pull7 ?_
   refine oN (os_storera _ ag_24 rfl rfl (Free.zero _)) ?_; rintro _ _ ⟨rfl, rfl⟩
   refine ol_nil ?_
   refine px_blockN ?_
   refine px_pull8 ?_
   refine px_pull1 ?_
   refine px_pull8 ?_
   refine px_pull8 ?_
   refine px_pull8 ?_
   refine px_pull8 ?_
   refine px_pull8 ?_
   refine px_pull8 ?_
   refine px_loop2 q ⟨hqn, by rw [← leafN_yes hnd hpa h1 hbk]; exact hlk⟩ (by (try dsimp only); omega) trivial ?_ (fun _ s => (s.del 8))
   repeat (first | exact kept_over | refine kept_upd rfl ?_ | refine kept_overS (by decide) ?_)
end Go.SL

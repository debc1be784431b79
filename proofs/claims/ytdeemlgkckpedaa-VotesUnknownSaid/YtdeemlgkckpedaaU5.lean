import Derived.RangeFuncNested
import Derived.RangeFuncLeaves
import Derived.RangeFuncCalls
import Derived.LoopNIn
import Derived.OwnWalkIn
import Derived.Test.YtdeemlgkckpedaaU4
set_option linter.unusedVariables false
set_option linter.unusedSimpArgs false
namespace Go.SL
open Go.Proofs

/-- weights that are of their own ones -/
@[reducible] def WObj (pw pt : Nat) (ns : List Node) (o : List Int) : HProp := WRaw pw pt o (sumL ns o) (bestL ns (sumL ns o)) (leafL ns (sumL ns o))

set_option maxRecDepth 100000 in
set_option maxHeartbeats 1000000 in
theorem Apply_calls {w0 w : World} {l : List HProp} (pw pt : Nat) (t : TreeS) (o : List Int) (lo : Option Addr) (lc : Nat) (xs : List Delta) (hs : Sat w0 w ((TreeObj pt t) :: (WObj pw pt t.nodes o) :: l)) (h1 : o.length ≤ t.nodes.length) (hok : OwnOK o) (hr : Rds w0 l encDelta lo xs) (hxl : xs.length ≤ 1000) :
  Calls Try.prog 52 #[.pointer (some ⟨pw, 0, none⟩), .slice lo xs.length lc] w (Ret w0 fun v l' => v = .int .i64 (applyO t.nodes o xs).1 ∧ l' = TreeObj pt t :: WObj pw pt t.nodes (applyO t.nodes o xs).2 :: l) := by
 have hw := hs.treeWF
 have hm1 := hw.m1; have hm2 := hw.m2; have hle := hw.le; have hne := hw.ne; have hpa := hw.pa; have hnd := hw.nd
 have hgl := growO_len h1
 have hsl := sumL_len t.nodes o
 have hbl := bestL_len t.nodes (sumL t.nodes o)
 have hll := leafL_len t.nodes (sumL t.nodes o)
 have hgo : OwnOK (growO t.nodes.length o) := hok.zeros _
 have hsg := sumL_len t.nodes (growO t.nodes.length o)
 refine calls_enter Try.func52 rfl rfl rfl hs ?_
 refine Z0 ?_
 refine Z5a ?_
 refine oq (op_eqnil Try.underlying27 rfl rfl) ?_
 refine Z2c ?_
 refine Zg ?_
 refine Z9 ?_
 refine Z9 ?_
 refine oi (os_call cb_76 rfl (fun w s => grow_calls _ _ _ _ _ _ _  s (by omega) (by omega) (by omega) (by omega))) ?_; rintro _ _ ⟨rfl, rfl⟩; rw [sumL_grow]
 refine Z1 ?_
 refine Zg ?_
 refine Zm ?_
 refine Z9 ?_
 refine Z9 ?_
 refine oi (os_call cb_78 rfl (fun w s => next_calls _ _ _ _ _ _ _ _ _ _  s (by omega) hgo.ent hr (by omega))) ?_; rintro _ _ ⟨out2, oa2, oc2, rfl, rfl, ho2⟩
 refine Z38 ?_
 refine oq (op_extract (v := .slice _ _ _) rfl rfl) ?_
 refine Z3l ?_
 refine Zw ?_
 refine Z8 ?_
 refine Zf ?_
 refine Z5c ?_
 refine cd_cond rfl (fun hb1 => ?_) (fun hb1 => ?_)
 ·have hp1 := hb1
  (try simp only [bn] at hp1)
  refine Zg ?_
  refine Zs ?_
  refine Zs ?_
  refine oi (os_call cb_77 rfl (fun w s => rank_calls _ _ _ _ _ _ _  s (by omega) (by rw [List.length_append, List.length_replicate]; omega) (by rw [List.length_append, List.length_replicate]; omega))) ?_; rintro _ _ ⟨rfl, rfl⟩
  refine Z1 ?_
  refine Z3b ?_
  refine Z13 ?_
  have hne0 : nextO t.nodes (growO t.nodes.length o) xs ≠ 0 := of_decide_eq_true hb1
  rw [applyO_err hne0]
  exact px_ret1 rfl (v := .int _ _) rfl (fun _ s => (s.del 2)) ⟨rfl, rfl⟩
 have hp1 := hb1
 (try simp only [bn] at hp1)
 have hn0 : nextO t.nodes (growO t.nodes.length o) xs = 0 := by simpa using hb1
 have hz0 := nextO_zero hn0
 have hout := ho2 hn0
 have hul : (runO t.nodes (growO t.nodes.length o) xs).2.length = (growO t.nodes.length o).length := runO_len _ _ _
 have hun : ∀ j, 0 ≤ oA (runO t.nodes (growO t.nodes.length o) xs).2 j := fun j => (runO_ent (ns := t.nodes) xs hgo.ent j).1
 rw [hout]
 refine Zn ?_
 refine cd_pull2 ?_
 refine cd_wrawOpen ?_; intro a1 c1 a2 c2 a3 c3 a4 c4
 refine Z0 ?_
 refine Zm ?_
 refine Z5k ?_
 refine Z2m ?_
 refine Z3j ?_
 refine cd_pull2 ?_
 refine cd_loop2 (α := Int) [(7, 11), (30, 71)] (fun x => [(7, .int .i64 x)]) (fun x => Row 3 encI64 (.slice a2 (sumL t.nodes (growO t.nodes.length o)).length c2) (sumL t.nodes (mixO (growO t.nodes.length o) (runO t.nodes (growO t.nodes.length o) xs).2 ((t.nodes.length : Int) - 1 - x).toNat)) :: _) (fun x => -1 ≤ x ∧ x < t.nodes.length) (fun x => (x + 1).toNat) (((runO t.nodes (growO t.nodes.length o) xs).2.length : Int) - 1) (by omega) ⟨rfl, trivial⟩ (fun _ s => by (try dsimp only); rw [show ((t.nodes.length : Int) - 1 - (((runO t.nodes (growO t.nodes.length o) xs).2.length : Int) - 1)).toNat = 0 by omega, mixO_zero hul]; exact s) ?_
 rintro i ⟨hi0, hi⟩ f; (try dsimp only at hi0 hi ⊢)
 refine Zf ?_
 refine Z3s ?_
 refine cd_cond rfl (fun hb2 => ?_) (fun hb2 => ?_)
 ·have hp2 := hb2
  (try simp only [bn] at hp2)
  obtain ⟨i0, rfl⟩ : ∃ i0 : Nat, i = i0 := ⟨i.toNat, by omega⟩
  have hm0 : (growO t.nodes.length o).length - ((t.nodes.length : Int) - 1 - (i0 : Int)).toNat - 1 = i0 := by omega
  have hmm : ((t.nodes.length : Int) - 1 - ((i0 : Int) - 1)).toNat = ((t.nodes.length : Int) - 1 - (i0 : Int)).toNat + 1 := by omega
  have hml : ((t.nodes.length : Int) - 1 - (i0 : Int)).toNat < (growO t.nodes.length o).length := by omega
  have hvu : (runO t.nodes (growO t.nodes.length o) xs).2[i0]'(by omega) = oA (runO t.nodes (growO t.nodes.length o) xs).2 i0 := (oA_get _).symm
  have hvg : (growO t.nodes.length o)[i0]'(by omega) = oA (growO t.nodes.length o) i0 := (oA_get _).symm
  have hr1 := hgo.ent i0
  have hr2 := runO_ent (ns := t.nodes) xs hgo.ent i0
  refine Z3g ?_
  refine Z1u ?_
  refine Z5w ?_
  refine Ze ?_
  refine rg_q (wn_none rfl) (op_index i0 sB_42 rfl rfl rfl (rds_row 5 rfl rfl) rfl (by omega)) rfl rfl ?_
  refine rg_q (wn_none rfl) (op_ldw sc_3 (rds_row 5 rfl rfl) rfl (by omega) rfl) rfl rfl ?_
  refine Z6 ?_
  refine rg_q (wn_none rfl) (op_field fld_116_1 rfl) rfl rfl ?_
  refine rg_q (wn_none rfl) (op_ld 1 sc_42 rfl rfl rfl) rfl rfl ?_
  refine Ze ?_
  refine rg_q (wn_none rfl) (op_index i0 sB_42 rfl rfl rfl (rds_row 2 rfl rfl) rfl (by omega)) rfl rfl ?_
  refine rg_q (wn_none rfl) (op_ldw sc_3 (rds_row 2 rfl rfl) rfl (by omega) rfl) rfl rfl ?_
  refine Z6w ?_
  refine Z3q ?_
  refine Z5b ?_
  refine cd_cond rfl (fun hb3 => ?_) (fun hb3 => ?_)
  ·have hp3 := hb3
   (try simp only [bn] at hp3)
   have hd0 : oA (runO t.nodes (growO t.nodes.length o) xs).2 i0 - oA (growO t.nodes.length o) i0 = 0 := by omega
   have eS : sumL t.nodes (mixO (growO t.nodes.length o) (runO t.nodes (growO t.nodes.length o) xs).2 ((t.nodes.length : Int) - 1 - (i0 : Int)).toNat) = sumL t.nodes (mixO (growO t.nodes.length o) (runO t.nodes (growO t.nodes.length o) xs).2 ((t.nodes.length : Int) - 1 - ((i0 : Int) - 1)).toNat) := by rw [hmm]; exact (mix_same hul hml (by rw [hm0]; exact hd0)).symm
   refine cd_exit ?_
   refine Zai ?_
   refine px_then ?_
   refine Z1b ?_
   refine Z4 ?_
   refine Z2m ?_
   refine Z2s ?_
   exact Zd9
  have hp3 := hb3
  (try simp only [bn] at hp3)
  rw [hvu, hvg]
  refine Za ?_
  refine Z18 ?_
  refine Z3j ?_
  refine cd_loop2 (α := Int) [(9, 11), (49, 71)] (fun x => [(9, .int .i64 x)]) (fun x => Row 3 encI64 (.slice a2 (sumL t.nodes (growO t.nodes.length o)).length c2) (upL t.nodes (sumN t.nodes (mixO (growO t.nodes.length o) (runO t.nodes (growO t.nodes.length o) xs).2 ((t.nodes.length : Int) - 1 - (i0 : Int)).toNat)) (growO t.nodes.length o).length i0 x (oA (runO t.nodes (growO t.nodes.length o) xs).2 i0 - oA (growO t.nodes.length o) i0)) :: _) (fun x => x = -1 ∨ ∃ k : Nat, x = k ∧ k < t.nodes.length ∧ belI t.nodes k (i0 : Int) = true) (fun x => (x + 1).toNat) (i0 : Int) (.inr ⟨i0, rfl, by omega, belI_eq⟩) ⟨rfl, trivial⟩ (fun _ s => by (try dsimp only); rw [up_first hul]; exact s) ?_
  rintro k hkk f; (try dsimp only at hkk ⊢)
  refine Zf ?_
  refine Z3s ?_
  refine cd_cond rfl (fun hb4 => ?_) (fun hb4 => ?_)
  ·have hp4 := hb4
   (try simp only [bn] at hp4)
   obtain ⟨k0, rfl, hk1, hk2⟩ : ∃ k0 : Nat, k = k0 ∧ k0 < t.nodes.length ∧ belI t.nodes k0 (i0 : Int) = true := by
    rcases hkk with h | h
    ·omega
    exact h
   have hv0 : (upL t.nodes (sumN t.nodes (mixO (growO t.nodes.length o) (runO t.nodes (growO t.nodes.length o) xs).2 ((t.nodes.length : Int) - 1 - (i0 : Int)).toNat)) (growO t.nodes.length o).length i0 (k0 : Int) (oA (runO t.nodes (growO t.nodes.length o) xs).2 i0 - oA (growO t.nodes.length o) i0))[k0]'(by rw [upL_len]; omega) = sumN t.nodes (mixO (growO t.nodes.length o) (runO t.nodes (growO t.nodes.length o) xs).2 ((t.nodes.length : Int) - 1 - (i0 : Int)).toNat) k0 := by rw [← oA_get]; exact upL_at (by omega)
   have hms := mix_sum (ns := t.nodes) hul hml k0
   rw [hm0, if_pos hk2] at hms
   have hb1 := sumN_nonneg (ns := t.nodes) (a := k0) (mixO_nn hul hgo.nn hun (((t.nodes.length : Int) - 1 - (i0 : Int)).toNat + 1))
   have hb2 := sumN_tot (ns := t.nodes) (a := k0) (mixO_nn hul hgo.nn hun (((t.nodes.length : Int) - 1 - (i0 : Int)).toNat + 1))
   have hb3 := mixO_tot hul hgo.nn hun (((t.nodes.length : Int) - 1 - (i0 : Int)).toNat + 1)
   have hb4 := hgo.tt
   have hb5 := hz0.2
   have eU : (upL t.nodes (sumN t.nodes (mixO (growO t.nodes.length o) (runO t.nodes (growO t.nodes.length o) xs).2 ((t.nodes.length : Int) - 1 - (i0 : Int)).toNat)) (growO t.nodes.length o).length i0 (k0 : Int) (oA (runO t.nodes (growO t.nodes.length o) xs).2 i0 - oA (growO t.nodes.length o) i0)).set k0 (sumN t.nodes (mixO (growO t.nodes.length o) (runO t.nodes (growO t.nodes.length o) xs).2 ((t.nodes.length : Int) - 1 - (i0 : Int)).toNat) k0 + (oA (runO t.nodes (growO t.nodes.length o) xs).2 i0 - oA (growO t.nodes.length o) i0)) = upL t.nodes (sumN t.nodes (mixO (growO t.nodes.length o) (runO t.nodes (growO t.nodes.length o) xs).2 ((t.nodes.length : Int) - 1 - (i0 : Int)).toNat)) (growO t.nodes.length o).length i0 (prA t.nodes k0) (oA (runO t.nodes (growO t.nodes.length o) xs).2 i0 - oA (growO t.nodes.length o) i0) := upL_step hpa (by omega) (by omega) hk2
   refine Za ?_
   refine cd_block ?_
   refine Z1v ?_
   refine oq (op_field fld_116_2 rfl) ?_
   refine oq (op_ld 1 sc_42 rfl rfl rfl) ?_
   refine Z4 ?_
   refine oq (op_index k0 sB_42 rfl rfl rfl (rds_row 0 rfl rfl) (by rw [upL_len]; omega) (by rw [upL_len]; omega)) ?_
   refine oq (op_ldw sc_3 (rds_row 0 rfl rfl) rfl (by rw [upL_len]; omega) rfl) ?_
   refine Z4 ?_
   refine oq (op_add rfl rfl (by rw [hv0]; omega) (by rw [hv0]; omega)) ?_
   refine oq (op_index k0 sB_42 rfl rfl rfl (rds_row 0 rfl rfl) (by rw [upL_len]; omega) (by rw [upL_len]; omega)) ?_
   refine oN (os_stsw  sc_3 rfl rfl rfl (by rw [upL_len]; omega) rfl rfl) ?_; rintro _ _ ⟨rfl, rfl⟩
   refine Z1 ?_
   refine Z1v ?_
   refine oq (op_field fld_116_0 rfl) ?_
   refine oq (op_ld 1 sc_26 rfl rfl rfl) ?_
   refine Z4 ?_
   refine Z25 ?_
   refine oi (os_call cb_24 rfl (fun w s => Node_calls _ _ _  s )) ?_; rintro _ _ ⟨rfl, rfl⟩; rw [TreeS.node_at]
   refine Z3r ?_
   refine Z3k ?_; intro bx1
   refine Z4a ?_
   refine Z1b ?_
   refine oq (op_field fld_51_2 rfl) ?_
   refine oq (op_ld 0 sc_3 rfl rfl (show (nodeC _).toArray[33]? = some (.int .i64 (prA t.nodes k0)) from nodeC_a33 _)) ?_
   refine Z2s ?_
   refine px_blockN ?_
   refine px_loop2 (prA t.nodes k0) (by rcases belI_step hpa (by omega) (by omega) hk2 with h | ⟨j, h, h3, h4⟩; exact .inl h; exact .inr ⟨j, h, by omega, h4⟩) (by (try dsimp only); rcases hpa.rg (show k0 < t.nodes.length by omega) with h | ⟨j, h, h3⟩ <;> omega) ⟨rfl, trivial⟩ ?_ (fun _ s => (by (try dsimp only); rw [← eU, ← hv0]; exact (((((((s.del 0).pull 6).pull 6).pull 6).pull 6).pull 6).pull 6)))
   exact Z2
  have hp4 := hb4
  (try simp only [bn] at hp4)
  have eS : upL t.nodes (sumN t.nodes (mixO (growO t.nodes.length o) (runO t.nodes (growO t.nodes.length o) xs).2 ((t.nodes.length : Int) - 1 - (i0 : Int)).toNat)) (growO t.nodes.length o).length i0 k (oA (runO t.nodes (growO t.nodes.length o) xs).2 i0 - oA (growO t.nodes.length o) i0) = sumL t.nodes (mixO (growO t.nodes.length o) (runO t.nodes (growO t.nodes.length o) xs).2 ((t.nodes.length : Int) - 1 - ((i0 : Int) - 1)).toNat) := by rw [hmm]; exact mix_up hul hml (by omega) hm0.symm
  refine Z6m ?_
  refine Z4p ?_
  refine Z2m ?_
  refine Z2s ?_
  exact Zd9
 have hp2 := hb2
 (try simp only [bn] at hp2)
 refine Z1e ?_
 refine Zg ?_
 refine Zm ?_
 refine Zr ?_
 refine oq (op_field fld_116_1 rfl) ?_
 refine Z9 ?_
 refine Zap ?_
 refine Z1 ?_
 have hei : i = -1 := by omega
 have hu : (mixO (growO t.nodes.length o) (runO t.nodes (growO t.nodes.length o) xs).2 ((t.nodes.length : Int) - 1 - i).toNat) = (runO t.nodes (growO t.nodes.length o) xs).2 := by rw [show ((t.nodes.length : Int) - 1 - i).toNat = (growO t.nodes.length o).length by omega]; exact mixO_all hul
 rw [hu]
 refine cd_imp (fun _ s => (Sat.wrawMk (o := (runO t.nodes (growO t.nodes.length o) xs).2) (sm := sumL t.nodes (runO t.nodes (growO t.nodes.length o) xs).2) (by rfl) (by simp only [sumL_len, hul]) (by rfl) (by rfl) (((((((s.del 2).pull 5).pull 4).pull 4).pull 4).pull 5).pull 5))) ?_
 refine Zg ?_
 refine Z9 ?_
 refine oi (os_call cb_77 rfl (fun w s => rank_calls _ _ _ _ _ _ _  s (by rw [sumL_len, hul]; omega) (by rw [List.length_append, List.length_replicate]; omega) (by rw [List.length_append, List.length_replicate]; omega))) ?_; rintro _ _ ⟨rfl, rfl⟩
 refine Z1 ?_
 refine Z1c ?_
 rw [applyO_run hn0]
 exact px_ret1 rfl (v := .int _ 0) rfl (fun _ s => s) ⟨rfl, rfl⟩

end Go.SL

set_option linter.unusedVariables false
set_option linter.unusedSimpArgs false
namespace Go.SL
open Go.Proofs

set_option maxRecDepth 100000 in
set_option maxHeartbeats 1000000 in
theorem Own1_calls {w0 w : World} {l : List HProp} (pw pt b : Nat) (y2 y3 y4 : Value) (a : Option Addr) (c n : Nat) (T : List Int) (i : Nat) (hs : Sat w0 w ((Blk b (.cells #[.pointer (some ⟨pw, 0, none⟩)] 27 (0, 0))) :: (Blk pw (.cells #[.pointer (some ⟨pt, 0, none⟩), .slice a n c, y2, y3, y4] 116 (0, 0))) :: (Row 3 encI64 (.slice a n c) T) :: l)) (hn : T.length = n) (hi : i < n) :
  Calls Try.prog 58 #[.int .i64 (i : Int), .pointer (some ⟨b, 0, none⟩)] w (Ret w0 fun v l' => v = .int .i64 (oA T i) ∧ l' = Blk b (.cells #[.pointer (some ⟨pw, 0, none⟩)] 27 (0, 0)) :: Blk pw (.cells #[.pointer (some ⟨pt, 0, none⟩), .slice a n c, y2, y3, y4] 116 (0, 0)) :: Row 3 encI64 (.slice a n c) T :: l) := by
 refine calls_enter Try.func58 rfl rfl rfl hs ?_
 refine Z0 ?_
 refine Z8 ?_
 refine Z0 ?_
 refine oq (op_ld 0 sc_27 rfl rfl rfl) ?_
 refine Zr ?_
 refine oq (op_field fld_116_1 rfl) ?_
 refine oq (op_ld 1 sc_42 rfl rfl rfl) ?_
 refine Z4 ?_
 refine Zaq ?_
 refine oq (op_ldw sc_3 (rds_row 2 rfl rfl) rfl (by omega) rfl) ?_
 refine Zp ?_
 exact Zar

set_option maxRecDepth 100000 in
set_option maxHeartbeats 1000000 in
theorem Weight1_calls {w0 w : World} {l : List HProp} (pw pt b : Nat) (y1 y3 y4 : Value) (a : Option Addr) (c n : Nat) (T : List Int) (i : Nat) (hs : Sat w0 w ((Blk b (.cells #[.pointer (some ⟨pw, 0, none⟩)] 27 (0, 0))) :: (Blk pw (.cells #[.pointer (some ⟨pt, 0, none⟩), y1, .slice a n c, y3, y4] 116 (0, 0))) :: (Row 3 encI64 (.slice a n c) T) :: l)) (hn : T.length = n) (hi : i < n) :
  Calls Try.prog 60 #[.int .i64 (i : Int), .pointer (some ⟨b, 0, none⟩)] w (Ret w0 fun v l' => v = .int .i64 (oA T i) ∧ l' = Blk b (.cells #[.pointer (some ⟨pw, 0, none⟩)] 27 (0, 0)) :: Blk pw (.cells #[.pointer (some ⟨pt, 0, none⟩), y1, .slice a n c, y3, y4] 116 (0, 0)) :: Row 3 encI64 (.slice a n c) T :: l) := by
 refine calls_enter Try.func60 rfl rfl rfl hs ?_
 refine Z0 ?_
 refine Z8 ?_
 refine Z0 ?_
 refine oq (op_ld 0 sc_27 rfl rfl rfl) ?_
 refine Zr ?_
 refine oq (op_field fld_116_2 rfl) ?_
 refine oq (op_ld 1 sc_42 rfl rfl rfl) ?_
 refine Z4 ?_
 refine Zaq ?_
 refine oq (op_ldw sc_3 (rds_row 2 rfl rfl) rfl (by omega) rfl) ?_
 refine Zp ?_
 exact Zar

set_option maxRecDepth 100000 in
set_option maxHeartbeats 1000000 in
theorem Best1_calls {w0 w : World} {l : List HProp} (pw pt b : Nat) (y1 y2 y4 : Value) (a : Option Addr) (c n : Nat) (T : List Int) (i : Nat) (hs : Sat w0 w ((Blk b (.cells #[.pointer (some ⟨pw, 0, none⟩)] 27 (0, 0))) :: (Blk pw (.cells #[.pointer (some ⟨pt, 0, none⟩), y1, y2, .slice a n c, y4] 116 (0, 0))) :: (Row 3 encI64 (.slice a n c) T) :: l)) (hn : T.length = n) (hi : i < n) (hv : -1 ≤ oA T i ∧ oA T i < 1000000) :
  Calls Try.prog 61 #[.int .i64 (i : Int), .pointer (some ⟨b, 0, none⟩)] w (Ret w0 fun v l' => v = .int .i64 (oA T i + 1) ∧ l' = Blk b (.cells #[.pointer (some ⟨pw, 0, none⟩)] 27 (0, 0)) :: Blk pw (.cells #[.pointer (some ⟨pt, 0, none⟩), y1, y2, .slice a n c, y4] 116 (0, 0)) :: Row 3 encI64 (.slice a n c) T :: l) := by
 refine calls_enter Try.func61 rfl rfl rfl hs ?_
 refine Z0 ?_
 refine Z8 ?_
 refine Z0 ?_
 refine oq (op_ld 0 sc_27 rfl rfl rfl) ?_
 refine Zr ?_
 refine oq (op_field fld_116_3 rfl) ?_
 refine oq (op_ld 1 sc_42 rfl rfl rfl) ?_
 refine Z4 ?_
 refine Zaq ?_
 refine oq (op_ldw sc_3 (rds_row 2 rfl rfl) rfl (by omega) rfl) ?_
 refine oq (op_add rfl rfl (by rw [← oA_get]; omega) (by rw [← oA_get]; omega)) ?_
 refine Zp ?_
 exact Zar

set_option maxRecDepth 100000 in
set_option maxHeartbeats 1000000 in
theorem ofOwn_calls {w0 w : World} {l : List HProp} (pw pt b : Nat) (t : TreeS) (o sm be lf : List Int) (r : Root) (hs : Sat w0 w ((TreeObj pt t) :: (WRaw pw pt o sm be lf) :: (Blk b (.cells #[.pointer (some ⟨pw, 0, none⟩)] 27 (0, 0))) :: l))  :
  Calls Try.prog 57 #[.pointer (some ⟨pw, 0, none⟩), .agg (rootC r).toArray, .func (.func 58) #[] #[.pointer (some ⟨b, 0, none⟩)]] w (Ret w0 fun v l' => v = .int .i64 (ofF t o.length (oA o) r) ∧ l' = TreeObj pt t :: WRaw pw pt o sm be lf :: Blk b (.cells #[.pointer (some ⟨pw, 0, none⟩)] 27 (0, 0)) :: l) := by
 have hw := hs.treeWF
 have hm1 := hw.m1; have hm2 := hw.m2; have hle := hw.le; have hne := hw.ne; have hpa := hw.pa; have hnd := hw.nd
 obtain ⟨a1, c1, a2, c2, a3, c3, a4, c4, hs⟩ := (hs.pull 1).wrawOpen
 refine calls_enter Try.func57 rfl rfl rfl hs ?_
 refine Z3z ?_; intro bx1
 refine oq (op_eqnil Try.underlying27 rfl rfl) ?_
 refine Z3a ?_
 refine Zn ?_
 refine Z5d ?_
 refine Z55 ?_
 refine Z6 ?_
 refine Z8m ?_
 refine Z6z ?_
 refine Z17 ?_
 refine Z9l ?_
 refine Z3t ?_
 refine Z18 ?_
 refine Z5h ?_
 refine Z5 ?_
 refine ol_split 18 rfl (fun hb1 => ?_) (fun hb1 => ?_)
 ·have hp1 := hb1
  (try simp only [bn] at hp1)
  refine Z2q ?_
  refine Z50 ?_
  refine Z51 ?_
  refine ol_q (wn_some rfl rfl rfl hb1 rfl) (op_field fld_116_1 rfl) rfl ?_
  refine Zb8 ?_
  refine Z5x ?_
  refine Z20 ?_
  refine Z1 ?_
  refine cd_cond rfl (fun hb2 => ?_) (fun hb2 => ?_)
  ·have hp2 := hb2
   (try simp only [bn] at hp2)
   obtain ⟨i, hpi, hin, hof⟩ := ofF_yes (t := t) (n := o.length) (f := (oA o)) (r := r) (by omega) (by omega)
   rw [hpi]
   refine Z0 ?_
   refine oq (op_move (v := .func _ _ _) rfl) ?_
   refine Z4 ?_
   refine Zl ?_
   refine Zl ?_
   refine ol_pull7 ?_
   refine oi (os_callv (C := [_]) (vs := [_]) cb_58 rfl rfl (fun w s => Own1_calls _ _ _ _ _ _ _ _ _ _ _  s (by first | rfl | omega) (by omega))) ?_; rintro _ _ ⟨rfl, rfl⟩
   refine Zp ?_
   refine Z13 ?_
   exact px_ret1 rfl (v := .int _ _) (l' := TreeObj pt t :: WRaw pw pt o sm be lf :: Blk b (.cells #[.pointer (some ⟨pw, 0, none⟩)] 27 (0, 0)) :: l) rfl (fun _ s => ((Sat.wrawMk rfl rfl rfl rfl (((((((s.del 4).pull 3).pull 6).pull 6).pull 6).pull 6).pull 6)).pull 1)) ⟨congrArg (Value.int .i64) (hof.symm), rfl⟩
  have hp2 := hb2
  (try simp only [bn] at hp2)
  refine Za ?_
  refine Z1c ?_
  exact Z70
 have hp1 := hb1
 (try simp only [bn] at hp1)
 refine Z3o ?_
 refine Z4t ?_
 refine Z21 ?_
 refine Z2c ?_
 refine Z1c ?_
 exact Z70

set_option maxRecDepth 100000 in
set_option maxHeartbeats 1000000 in
theorem ofWeight_calls {w0 w : World} {l : List HProp} (pw pt b : Nat) (t : TreeS) (o sm be lf : List Int) (r : Root) (hs : Sat w0 w ((TreeObj pt t) :: (WRaw pw pt o sm be lf) :: (Blk b (.cells #[.pointer (some ⟨pw, 0, none⟩)] 27 (0, 0))) :: l)) (h2 : sm.length = o.length) :
  Calls Try.prog 57 #[.pointer (some ⟨pw, 0, none⟩), .agg (rootC r).toArray, .func (.func 60) #[] #[.pointer (some ⟨b, 0, none⟩)]] w (Ret w0 fun v l' => v = .int .i64 (ofF t o.length (oA sm) r) ∧ l' = TreeObj pt t :: WRaw pw pt o sm be lf :: Blk b (.cells #[.pointer (some ⟨pw, 0, none⟩)] 27 (0, 0)) :: l) := by
 have hw := hs.treeWF
 have hm1 := hw.m1; have hm2 := hw.m2; have hle := hw.le; have hne := hw.ne; have hpa := hw.pa; have hnd := hw.nd
 obtain ⟨a1, c1, a2, c2, a3, c3, a4, c4, hs⟩ := (hs.pull 1).wrawOpen
 refine calls_enter Try.func57 rfl rfl rfl hs ?_
 refine Z3z ?_; intro bx1
 refine oq (op_eqnil Try.underlying27 rfl rfl) ?_
 refine Z3a ?_
 refine Zn ?_
 refine Z5d ?_
 refine Z55 ?_
 refine Z6 ?_
 refine Z8m ?_
 refine Z6z ?_
 refine Z17 ?_
 refine Z9l ?_
 refine Z3t ?_
 refine Z18 ?_
 refine Z5h ?_
 refine Z5 ?_
 refine ol_split 18 rfl (fun hb1 => ?_) (fun hb1 => ?_)
 ·have hp1 := hb1
  (try simp only [bn] at hp1)
  refine Z2q ?_
  refine Z50 ?_
  refine Z51 ?_
  refine ol_q (wn_some rfl rfl rfl hb1 rfl) (op_field fld_116_1 rfl) rfl ?_
  refine Zb8 ?_
  refine Z5x ?_
  refine Z20 ?_
  refine Z1 ?_
  refine cd_cond rfl (fun hb2 => ?_) (fun hb2 => ?_)
  ·have hp2 := hb2
   (try simp only [bn] at hp2)
   obtain ⟨i, hpi, hin, hof⟩ := ofF_yes (t := t) (n := o.length) (f := (oA sm)) (r := r) (by omega) (by omega)
   rw [hpi]
   refine Z0 ?_
   refine oq (op_move (v := .func _ _ _) rfl) ?_
   refine Z4 ?_
   refine ol_pull4 ?_
   refine Zl ?_
   refine ol_pull7 ?_
   refine oi (os_callv (C := [_]) (vs := [_]) cb_60 rfl rfl (fun w s => Weight1_calls _ _ _ _ _ _ _ _ _ _ _  s (by first | rfl | omega) (by omega))) ?_; rintro _ _ ⟨rfl, rfl⟩
   refine Zp ?_
   refine Z13 ?_
   exact px_ret1 rfl (v := .int _ _) (l' := TreeObj pt t :: WRaw pw pt o sm be lf :: Blk b (.cells #[.pointer (some ⟨pw, 0, none⟩)] 27 (0, 0)) :: l) rfl (fun _ s => ((Sat.wrawMk rfl rfl rfl rfl (((((((s.del 4).pull 3).pull 6).pull 6).pull 5).pull 6).pull 6)).pull 1)) ⟨congrArg (Value.int .i64) (hof.symm), rfl⟩
  have hp2 := hb2
  (try simp only [bn] at hp2)
  refine Za ?_
  refine Z1c ?_
  exact Z70
 have hp1 := hb1
 (try simp only [bn] at hp1)
 refine Z3o ?_
 refine Z4t ?_
 refine Z21 ?_
 refine Z2c ?_
 refine Z1c ?_
 exact Z70

set_option maxRecDepth 100000 in
set_option maxHeartbeats 1000000 in
theorem ofBest_calls {w0 w : World} {l : List HProp} (pw pt b : Nat) (t : TreeS) (o sm be lf : List Int) (r : Root) (hs : Sat w0 w ((TreeObj pt t) :: (WRaw pw pt o sm be lf) :: (Blk b (.cells #[.pointer (some ⟨pw, 0, none⟩)] 27 (0, 0))) :: l)) (h2 : be.length = o.length) (hv : ∀ i, i < o.length → -1 ≤ oA be i ∧ oA be i < 1000000) :
  Calls Try.prog 57 #[.pointer (some ⟨pw, 0, none⟩), .agg (rootC r).toArray, .func (.func 61) #[] #[.pointer (some ⟨b, 0, none⟩)]] w (Ret w0 fun v l' => v = .int .i64 (ofF t o.length (fun i => oA be i + 1) r) ∧ l' = TreeObj pt t :: WRaw pw pt o sm be lf :: Blk b (.cells #[.pointer (some ⟨pw, 0, none⟩)] 27 (0, 0)) :: l) := by
 have hw := hs.treeWF
 have hm1 := hw.m1; have hm2 := hw.m2; have hle := hw.le; have hne := hw.ne; have hpa := hw.pa; have hnd := hw.nd
 obtain ⟨a1, c1, a2, c2, a3, c3, a4, c4, hs⟩ := (hs.pull 1).wrawOpen
 refine calls_enter Try.func57 rfl rfl rfl hs ?_
 refine Z3z ?_; intro bx1
 refine oq (op_eqnil Try.underlying27 rfl rfl) ?_
 refine Z3a ?_
 refine Zn ?_
 refine Z5d ?_
 refine Z55 ?_
 refine Z6 ?_
 refine Z8m ?_
 refine Z6z ?_
 refine Z17 ?_
 refine Z9l ?_
 refine Z3t ?_
 refine Z18 ?_
 refine Z5h ?_
 refine Z5 ?_
 refine ol_split 18 rfl (fun hb1 => ?_) (fun hb1 => ?_)
 ·have hp1 := hb1
  (try simp only [bn] at hp1)
  refine Z2q ?_
  refine Z50 ?_
  refine Z51 ?_
  refine ol_q (wn_some rfl rfl rfl hb1 rfl) (op_field fld_116_1 rfl) rfl ?_
  refine Zb8 ?_
  refine Z5x ?_
  refine Z20 ?_
  refine Z1 ?_
  refine cd_cond rfl (fun hb2 => ?_) (fun hb2 => ?_)
  ·have hp2 := hb2
   (try simp only [bn] at hp2)
   obtain ⟨i, hpi, hin, hof⟩ := ofF_yes (t := t) (n := o.length) (f := (fun i => oA be i + 1)) (r := r) (by omega) (by omega)
   rw [hpi]
   refine Z0 ?_
   refine oq (op_move (v := .func _ _ _) rfl) ?_
   refine Z4 ?_
   refine ol_pull5 ?_
   refine Zl ?_
   refine ol_pull7 ?_
   refine oi (os_callv (C := [_]) (vs := [_]) cb_61 rfl rfl (fun w s => Best1_calls _ _ _ _ _ _ _ _ _ _ _  s (by first | rfl | omega) (by omega) (hv _ (by omega)))) ?_; rintro _ _ ⟨rfl, rfl⟩
   refine Zp ?_
   refine Z13 ?_
   exact px_ret1 rfl (v := .int _ _) (l' := TreeObj pt t :: WRaw pw pt o sm be lf :: Blk b (.cells #[.pointer (some ⟨pw, 0, none⟩)] 27 (0, 0)) :: l) rfl (fun _ s => ((Sat.wrawMk rfl rfl rfl rfl (((((((s.del 4).pull 3).pull 6).pull 4).pull 6).pull 6).pull 6)).pull 1)) ⟨congrArg (Value.int .i64) (hof.symm), rfl⟩
  have hp2 := hb2
  (try simp only [bn] at hp2)
  refine Za ?_
  refine Z1c ?_
  exact Z70
 have hp1 := hb1
 (try simp only [bn] at hp1)
 refine Z3o ?_
 refine Z4t ?_
 refine Z21 ?_
 refine Z2c ?_
 refine Z1c ?_
 exact Z70

theorem ofF_congr {t : TreeS} {n : Nat} {f g : Nat → Int} {r : Root} (h : ∀ i, i < n → f i = g i) : ofF t n f r = ofF t n g r := by
 unfold ofF
 cases idxOf t.nodes r with
 | none => rfl
 | some i =>
  dsimp only
  by_cases hi : i < n
  ·rw [if_pos hi, if_pos hi, h i hi]
  ·rw [if_neg hi, if_neg hi]

set_option maxRecDepth 100000 in
set_option maxHeartbeats 1000000 in
theorem Own_calls {w0 w : World} {l : List HProp} (pw pt : Nat) (t : TreeS) (o : List Int) (r : Root) (hs : Sat w0 w ((TreeObj pt t) :: (WObj pw pt t.nodes o) :: l))  :
  Calls Try.prog 26 #[.pointer (some ⟨pw, 0, none⟩), .agg (rootC r).toArray] w (Ret w0 fun v l' => v = .int .i64 (ofF t o.length (oA o) r) ∧ l' = TreeObj pt t :: WObj pw pt t.nodes o :: l) := by
 have hw := hs.treeWF
 have hm1 := hw.m1; have hm2 := hw.m2; have hle := hw.le; have hpa := hw.pa; have hnd := hw.nd
 have hsl := sumL_len t.nodes o
 have hbl := bestL_len t.nodes (sumL t.nodes o)
 have hll := leafL_len t.nodes (sumL t.nodes o)
 refine calls_enter Try.func26 rfl rfl rfl hs ?_
 refine Z0 ?_
 refine oi (os_box (v := .pointer _) rfl rfl) ?_; rintro _ _ ⟨bx1, rfl, rfl⟩
 refine Z2f ?_; intro bx2
 refine Z8 ?_
 refine Z0 ?_
 refine oq (op_ld 1 sc_27 rfl rfl rfl) ?_
 refine Z2k ?_
 refine oq (op_makefunc (F := []) (C := [_]) rfl rfl) ?_
 refine Z9 ?_
 refine Zl ?_
 refine Zl ?_
 refine oi (os_call cb_57 rfl (fun w s => ofOwn_calls _ _ _ _ _ _ _ _ _  s )) ?_; rintro _ _ ⟨rfl, rfl⟩
 refine Zp ?_
 exact px_ret1 rfl (v := .int _ _) rfl (fun _ s => ((s.del 3).del 2)) ⟨rfl, rfl⟩

set_option maxRecDepth 100000 in
set_option maxHeartbeats 1000000 in
theorem Weight_calls {w0 w : World} {l : List HProp} (pw pt : Nat) (t : TreeS) (o : List Int) (r : Root) (hs : Sat w0 w ((TreeObj pt t) :: (WObj pw pt t.nodes o) :: l))  :
  Calls Try.prog 28 #[.pointer (some ⟨pw, 0, none⟩), .agg (rootC r).toArray] w (Ret w0 fun v l' => v = .int .i64 (ofF t o.length (sumN t.nodes o) r) ∧ l' = TreeObj pt t :: WObj pw pt t.nodes o :: l) := by
 have hw := hs.treeWF
 have hm1 := hw.m1; have hm2 := hw.m2; have hle := hw.le; have hpa := hw.pa; have hnd := hw.nd
 have hsl := sumL_len t.nodes o
 have hbl := bestL_len t.nodes (sumL t.nodes o)
 have hll := leafL_len t.nodes (sumL t.nodes o)
 refine calls_enter Try.func28 rfl rfl rfl hs ?_
 refine Z0 ?_
 refine oi (os_box (v := .pointer _) rfl rfl) ?_; rintro _ _ ⟨bx1, rfl, rfl⟩
 refine Z2f ?_; intro bx2
 refine Z8 ?_
 refine Z0 ?_
 refine oq (op_ld 1 sc_27 rfl rfl rfl) ?_
 refine Z2k ?_
 refine oq (op_makefunc (F := []) (C := [_]) rfl rfl) ?_
 refine Z9 ?_
 refine Zl ?_
 refine Zl ?_
 refine oi (os_call cb_57 rfl (fun w s => ofWeight_calls _ _ _ _ _ _ _ _ _  s (by first | assumption | omega | (simp; done)))) ?_; rintro _ _ ⟨rfl, rfl⟩
 refine Zp ?_
 exact px_ret1 rfl (v := .int _ _) rfl (fun _ s => ((s.del 3).del 2)) ⟨congrArg (Value.int .i64) (ofF_congr fun i hi => sumL_at hi), rfl⟩

end Go.SL

set_option linter.unusedVariables false
set_option linter.unusedSimpArgs false
namespace Go.SL
open Go.Proofs

set_option maxRecDepth 100000 in
set_option maxHeartbeats 1000000 in
theorem Best_calls {w0 w : World} {l : List HProp} (pw pt : Nat) (t : TreeS) (o : List Int) (r : Root) (hs : Sat w0 w ((TreeObj pt t) :: (WObj pw pt t.nodes o) :: l)) (h1 : o.length ≤ t.nodes.length) :
  Calls Try.prog 32 #[.pointer (some ⟨pw, 0, none⟩), .agg (rootC r).toArray] w (Ret w0 fun v l' => v = .tuple #[.agg (rootC (bestR t o r).1).toArray, .bool (bestR t o r).2] ∧ l' = TreeObj pt t :: WObj pw pt t.nodes o :: l) := by
 have hw := hs.treeWF
 have hm1 := hw.m1; have hm2 := hw.m2; have hle := hw.le; have hne := hw.ne; have hpa := hw.pa; have hnd := hw.nd
 have hsl := sumL_len t.nodes o
 have hbl := bestL_len t.nodes (sumL t.nodes o)
 have hll := leafL_len t.nodes (sumL t.nodes o)
 have hbi := bestI_rg hw h1 r
 unfold bestI at hbi
 have hbn := fun i => bestN_rg hnd hpa (oA (sumL t.nodes o)) h1 i
 refine calls_enter Try.func32 rfl rfl rfl hs ?_
 refine Z0 ?_
 refine oi (os_box (v := .pointer _) rfl rfl) ?_; rintro _ _ ⟨bx1, rfl, rfl⟩
 refine Z2f ?_; intro bx2
 refine Z1w ?_; intro bx3
 refine Zb ?_
 refine Z0 ?_
 refine oq (op_ld 2 sc_27 rfl rfl rfl) ?_
 refine Z8o ?_
 refine oq (op_makefunc (F := []) (C := [_]) rfl rfl) ?_
 refine Zs ?_
 refine ol_pull4 ?_
 refine ol_pull4 ?_
 refine oi (os_call cb_57 rfl (fun w s => ofBest_calls _ _ _ _ _ _ _ _ _  s (by omega) (fun i hi => by rw [bestL_at (by omega), hsl]; rcases hbn i with h | ⟨k, h, _, h3, _⟩ <;> omega))) ?_; rintro _ _ ⟨rfl, rfl⟩; rw [show ofF t o.length (fun i => oA (bestL t.nodes (sumL t.nodes o)) i + 1) r = ofF t o.length (fun i => bestN t.nodes (oA (sumL t.nodes o)) o.length i + 1) r from ofF_congr fun i hi => by rw [bestL_at (by omega), hsl]]
 refine Z2m ?_
 refine Z8 ?_
 refine Zf ?_
 refine Z3u ?_
 refine cd_cond rfl (fun hb1 => ?_) (fun hb1 => ?_)
 ·have hp1 := hb1
  (try simp only [bn] at hp1)
  refine Z0 ?_
  refine oq (op_buildr rfl rB_24 zBr_24) ?_
  refine Zl ?_
  refine Z4h ?_
  refine Zv ?_
  have hR : bestR t o r = (Root.zero, false) := bestR_no (by unfold bestI; omega)
  exact px_rv2 rfl (rv_cella 0 ag_24 rfl rfl (rootC_take' _) (by simp [rootC_len])) (rv_tmp (v := .bool _) rfl) (l' := TreeObj pt t :: WObj pw pt t.nodes o :: l) (fun _ s => (((s.del 4).del 3).del 0)) ⟨by rw [hR] <;> rfl, rfl⟩
 have hp1 := hb1
 (try simp only [bn] at hp1)
 obtain ⟨k0, hk0⟩ : ∃ k : Nat, ofF t o.length (fun i => bestN t.nodes (oA (sumL t.nodes o)) o.length i + 1) r - 1 = k := ⟨(ofF t o.length (fun i => bestN t.nodes (oA (sumL t.nodes o)) o.length i + 1) r - 1).toNat, by omega⟩
 refine Za ?_
 refine cd_pull1 ?_
 refine cd_wrawOpen ?_; intro a1 c1 a2 c2 a3 c3 a4 c4
 refine Z0 ?_
 refine oq (op_ld 6 sc_27 rfl rfl rfl) ?_
 refine Zr ?_
 refine oq (op_field fld_116_0 rfl) ?_
 refine oq (op_ld 0 sc_26 rfl rfl rfl) ?_
 refine Z4 ?_
 refine ol_pull5 ?_
 refine oi (os_call cb_24 rfl (fun w s => Node_calls _ _ _  s )) ?_; rintro _ _ ⟨rfl, rfl⟩; rw [hk0, TreeS.node_at]
 refine Z3r ?_
 refine Z3k ?_; intro bx4
 refine Z4a ?_
 refine Z0 ?_
 refine Z5u ?_
 refine Z8l ?_
 refine ol_pull8 ?_
 refine Z4h ?_
 refine Zk ?_
 have hR : bestR t o r = (rtA t.nodes k0, true) := bestR_yes hk0
 exact px_rv2 rfl (rv_cella 0 ag_24 rfl rfl (rootC_take' _) (by simp [rootC_len])) (rv_tmp (v := .bool _) rfl) (l' := TreeObj pt t :: WObj pw pt t.nodes o :: l) (fun _ s => ((Sat.wrawMk rfl rfl rfl rfl (((((((((s.del 9).del 8).del 1).del 0).pull 5).pull 5).pull 5).pull 5).pull 5)).pull 1)) ⟨by rw [hR] <;> rfl, rfl⟩

set_option maxRecDepth 100000 in
set_option maxHeartbeats 1000000 in
theorem Head_calls {w0 w : World} {l : List HProp} (pw pt : Nat) (t : TreeS) (o : List Int) (hs : Sat w0 w ((TreeObj pt t) :: (WObj pw pt t.nodes o) :: l)) (h1 : o.length ≤ t.nodes.length) (h0 : 0 < o.length) :
  Calls Try.prog 22 #[.pointer (some ⟨pw, 0, none⟩)] w (Ret w0 fun v l' => v = .agg (rootC (headW t.nodes o)).toArray ∧ l' = TreeObj pt t :: WObj pw pt t.nodes o :: l) := by
 have hw := hs.treeWF
 have hm1 := hw.m1; have hm2 := hw.m2; have hle := hw.le; have hne := hw.ne; have hpa := hw.pa; have hnd := hw.nd
 have hsl := sumL_len t.nodes o
 have hbl := bestL_len t.nodes (sumL t.nodes o)
 have hll := leafL_len t.nodes (sumL t.nodes o)
 have hl0 : (leafL t.nodes (sumL t.nodes o))[0]'(by omega) = ((leafN t.nodes (oA (sumL t.nodes o)) o.length 0 : Nat) : Int) := by rw [← oA_get, leafL_at (by omega), hsl]
 refine calls_enter Try.func22 rfl rfl rfl hs ?_
 refine Z0 ?_
 refine Z1w ?_; intro bx1
 refine Z1 ?_
 refine Z1q ?_
 refine oq (op_eqnil Try.underlying27 rfl rfl) ?_
 refine Z2c ?_
 refine cd_pull2 ?_
 refine cd_wrawOpen ?_; intro a1 c1 a2 c2 a3 c3 a4 c4
 refine Z5d ?_
 refine cd_drawe (M := [_]) mx [10, 14, 15] ?_
 refine Z22 ?_
 refine Z5y ?_
 refine e_q 2 rfl (wn_none rfl) (op_field fld_116_0 rfl) ?_
 refine e_q 3 rfl (wn_none rfl) (op_ld 0 sc_26 rfl rfl rfl) ?_
 refine Zbd ?_
 refine e_q 6 rfl (wn_none rfl) (op_field fld_116_4 rfl) ?_
 refine e_q 7 rfl (wn_none rfl) (op_ld 0 sc_42 rfl rfl rfl) ?_
 refine e_q 8 rfl (wn_none rfl) (op_index 0 sB_42 rfl rfl rfl (rds_row 4 rfl rfl) rfl (by omega)) ?_
 refine e_q 9 rfl (wn_none rfl) (op_ldw sc_3 (rds_row 4 rfl rfl) rfl (by omega) rfl) ?_
 refine et_2 (i1 := 10) (i2 := 14) (by kernel_rfl) ?_ ?_
 ·
  refine ei_i rfl rfl (wn_none rfl) (os_call cb_24 rfl (fun w s => Node_calls _ _ _  s )) rfl ?_; rintro _ _ ⟨rfl, rfl⟩; rw [hl0, TreeS.node_at]; refine ⟨[_], rfl, ?_⟩
  refine e_q 11 rfl (wn_none rfl) (op_move (v := .tuple _) rfl) ?_
  refine e_q 12 rfl (wn_none rfl) (op_extract (v := .agg _) rfl rfl) ?_
  refine e_q 13 rfl (wn_none rfl) (op_extract (v := .bool _) rfl rfl) ?_
  refine et_1 (i := 14) (by kernel_rfl) ?_
  refine ei_i rfl rfl (wn_none rfl) (os_alloc (cs := (nodeC Node.zero).toArray) zB_51 (by kernel_rfl)) rfl ?_; rintro _ _ ⟨bx2, rfl, rfl⟩; refine ⟨[_, _], rfl, ?_⟩
  refine Z5z ?_
  refine ei_iN rfl rfl (wn_none rfl) (os_storew (nodeC _) ag_51 rfl rfl (nodeC_len _) (nodeC_one _) (by simp [nodeC_len]) (Free.zero _)) ?_; rintro _ _ ⟨rfl, rfl⟩; refine ⟨[_, _], rfl, ?_⟩
  refine e_q 16 rfl (wn_none rfl) (op_assign (v := .bool _) rfl) ?_
  refine Z16 ?_
  refine Z0 ?_
  refine Z5u ?_
  refine Z8l ?_
  refine ol_pull7 ?_
  refine Z4s ?_
  exact Zbn
 refine ei_i rfl rfl (wn_none rfl) (os_alloc (cs := (nodeC Node.zero).toArray) zB_51 (by kernel_rfl)) rfl ?_; rintro _ _ ⟨bx3, rfl, rfl⟩; refine ⟨[_, _], rfl, ?_⟩
 refine Z1f ?_
 refine ei_i rfl rfl (wn_none rfl) (os_pull1 (os_call cb_24 rfl (fun w s => Node_calls _ _ _  s ))) rfl ?_; rintro _ _ ⟨rfl, rfl⟩; rw [hl0, TreeS.node_at]; refine ⟨[_, _], rfl, ?_⟩
 refine e_q 11 rfl (wn_none rfl) (op_move (v := .tuple _) rfl) ?_
 refine e_q 12 rfl (wn_none rfl) (op_extract (v := .agg _) rfl rfl) ?_
 refine e_q 13 rfl (wn_none rfl) (op_extract (v := .bool _) rfl rfl) ?_
 refine Z5z ?_
 refine ei_iN rfl rfl (wn_none rfl) (os_pull1 (os_storew (nodeC _) ag_51 rfl rfl (nodeC_len _) (nodeC_one _) (by simp [nodeC_len]) (Free.zero _))) ?_; rintro _ _ ⟨rfl, rfl⟩; refine ⟨[_, _], rfl, ?_⟩
 refine e_q 16 rfl (wn_none rfl) (op_assign (v := .bool _) rfl) ?_
 refine Z16 ?_
 refine Z0 ?_
 refine Z5u ?_
 refine Z8l ?_
 refine ol_pull7 ?_
 refine Z4s ?_
 exact Zbn

set_option maxRecDepth 100000 in
set_option maxHeartbeats 1000000 in
theorem WNew_calls {w0 w : World} {l : List HProp} (pt : Nat) (t : TreeS) (hs : Sat w0 w ((TreeObj pt t) :: l))  :
  Calls Try.prog 50 #[.pointer (some ⟨pt, 0, none⟩)] w (Ret w0 fun v l' => ∃ pw, v = .pointer (some ⟨pw, 0, none⟩) ∧ l' = WObj pw pt t.nodes (growO t.nodes.length []) :: TreeObj pt t :: l) := by
 have hw := hs.treeWF
 have hm1 := hw.m1; have hm2 := hw.m2; have hle := hw.le; have hne := hw.ne
 refine calls_enter Try.func50 rfl rfl rfl hs ?_
 refine Z31 ?_
 refine Z1 ?_
 refine Z1q ?_
 refine Z9m ?_
 refine Z54 ?_
 refine Z1 ?_
 refine cd_cond rfl (fun hb1 => ?_) (fun hb1 => ?_)
 ·have hp1 := hb1
  (try simp only [bn] at hp1)
  omega
 have hp1 := hb1
 (try simp only [bn] at hp1)
 refine Za ?_
 refine Zg ?_
 refine oq (op_build (L := [_, _, _, _, _]) (vs := [(0, .pointer _)]) bB_116 rfl ⟨⟨rfl, rfl⟩, trivial⟩ rfl) ?_
 refine Z2f ?_; intro bx1
 refine Zc ?_
 refine Z1 ?_
 refine cd_imp (fun _ s => Sat.wrawMk (pw := bx1) (pt := pt) (o := []) (sm := []) (be := []) (lf := []) rfl rfl rfl rfl ((((s.rowNil (E := encI64) (e := 3)).rowNil (E := encI64) (e := 3)).rowNil (E := encI64) (e := 3)).rowNil (E := encI64) (e := 3) |>.pull 4)) ?_
 refine Zg ?_
 refine Z9 ?_
 refine oi (os_call cb_76 rfl (fun w s => grow_calls _ _ _ _ _ _ _  s (Nat.zero_le _) (Nat.zero_le _) (Nat.zero_le _) (Nat.zero_le _))) ?_; rintro _ _ ⟨rfl, rfl⟩; rw [show ([] : List Int) ++ List.replicate (t.nodes.length - ([] : List Int).length) 0 = sumL t.nodes (growO t.nodes.length []) from sumL_grow t.nodes [] t.nodes.length]
 refine Z1 ?_
 refine Zg ?_
 refine Z9 ?_
 refine Z9 ?_
 refine oi (os_call cb_77 rfl (fun w s => rank_calls _ _ _ _ _ _ _  s (by rw [sumL_len]; exact growO_len (Nat.zero_le _)) (by simp) (by simp))) ?_; rintro _ _ ⟨rfl, rfl⟩
 refine Z1 ?_
 refine Zg ?_
 refine Zc ?_
 refine Z1s ?_
 exact px_ret1 rfl (v := .pointer _) rfl (fun _ s => (s.pull 1)) ⟨_, rfl, rfl⟩

end Go.SL

set_option linter.unusedVariables false
set_option linter.unusedSimpArgs false
namespace Go.SL
def deltasW (a : WAct) : List Delta := ⟨nameR a.root, a.n⟩ :: (if a.more = 0 then [] else [⟨nameR a.parent, a.more⟩])
def stepW (s : TreeS × List Int) (a : WAct) : TreeS × List Int := if a.kind = 0 then ((s.1.add (nameR a.root) (nameR a.parent) a.slot).2, s.2) else (s.1, (applyO s.1.nodes s.2 (deltasW a)).2)
def t0W : TreeS := TreeS.new (nameR 0) 0 256
def s0W : TreeS × List Int := (t0W, growO t0W.nodes.length [])
structure OKW (s : TreeS × List Int) : Prop where
  wf : s.1.WF
  le : s.2.length ≤ s.1.nodes.length
  ow : OwnOK s.2
  pos : 0 < s.2.length
  first : (s.1.nodes[0]?).map (·.root) = some (nameR 0)
theorem OKW.zero : OKW s0W := ⟨TreeS.WF.new (by decide) (by decide) (by decide) (by decide), by decide, OwnOK.nil.zeros _, by decide, rfl⟩
theorem OKW.step {s : TreeS × List Int} (h : OKW s) (a : WAct) : OKW (stepW s a) := by
  unfold stepW
  by_cases hk : a.kind = 0
  · rw [if_pos hk]
    obtain ⟨_, xs, e⟩ := s.1.add_most (nameR a.root) (nameR a.parent) a.slot
    refine ⟨h.wf.add _ _ _, ?_, h.ow, h.pos, ?_⟩
    · dsimp only; rw [e, List.length_append]; have := h.le; omega
    · dsimp only; rw [e, List.getElem?_append_left h.wf.ne]; exact h.first
  · rw [if_neg hk]
    exact ⟨h.wf, Nat.le_of_eq (applyO_len h.le _), applyO_ok h.ow _, by dsimp only; rw [applyO_len h.le]; exact h.wf.ne, h.first⟩
def runW (xs : List WAct) : TreeS × List Int := xs.foldl stepW s0W
theorem runW_succ {xs : List WAct} {i : Nat} (h : i < xs.length) : runW (xs.take (i + 1)) = stepW (runW (xs.take i)) xs[i] := by
  unfold runW
  rw [List.take_succ_eq_append_getElem h, List.foldl_append]
  rfl
theorem OKW.run (xs : List WAct) : OKW (runW xs) := by
  have key : ∀ m, m ≤ xs.length → OKW (runW (xs.take m)) := by
    intro m
    induction m with
    | zero => intro _; exact OKW.zero
    | succ m ih => intro hm; rw [runW_succ (by omega)]; exact (ih (by omega)).step _
  have := key xs.length (Nat.le_refl _)
  rwa [List.take_length] at this
theorem stepW_add {s : TreeS × List Int} {a : WAct} (h : a.kind = 0) : stepW s a = ((s.1.add (nameR a.root) (nameR a.parent) a.slot).2, s.2) := if_pos h
theorem nodes_add {t : TreeS} {r p : Root} {slot : Int} : ∃ xs, (t.add r p slot).2.nodes = t.nodes ++ xs := (t.add_most r p slot).2
theorem sumL_add {t : TreeS} (hw : t.WF) {o : List Int} (h : o.length ≤ t.nodes.length) (r p : Root) (slot : Int) : sumL (t.add r p slot).2.nodes o = sumL t.nodes o := by
  obtain ⟨xs, e⟩ := nodes_add (t := t) (r := r) (p := p) (slot := slot)
  rw [e]; exact sumL_app hw.pa h
theorem bestL_add {t : TreeS} {T : List Int} (h : T.length ≤ t.nodes.length) (r p : Root) (slot : Int) : bestL (t.add r p slot).2.nodes T = bestL t.nodes T := by
  obtain ⟨xs, e⟩ := nodes_add (t := t) (r := r) (p := p) (slot := slot)
  rw [e]; exact bestL_app h
theorem leafL_add {t : TreeS} {T : List Int} (h : T.length ≤ t.nodes.length) (r p : Root) (slot : Int) : leafL (t.add r p slot).2.nodes T = leafL t.nodes T := by
  obtain ⟨xs, e⟩ := nodes_add (t := t) (r := r) (p := p) (slot := slot)
  rw [e]; exact leafL_app h
end Go.SL

set_option linter.unusedVariables false
set_option linter.unusedSimpArgs false
namespace Go.SL
theorem idx_rt {t : TreeS} (hw : t.WF) {i : Nat} (hi : i < t.nodes.length) : idxOf t.nodes (rtA t.nodes i) = some i := by
  rw [rtA_get hi]; exact idxOf_get hw.nd (List.getElem?_eq_getElem hi)
theorem ofF_rt {t : TreeS} (hw : t.WF) {n i : Nat} {f : Nat → Int} (hi : i < t.nodes.length) (hn : i < n) : ofF t n f (rtA t.nodes i) = f i := by
  unfold ofF
  rw [idx_rt hw hi]
  dsimp only
  rw [if_pos hn]
theorem roots_len (t : TreeS) : t.roots.length = t.nodes.length := by simp [TreeS.roots]
theorem below_at {t : TreeS} (hw : t.WF) {i a : Nat} (hi : i < t.nodes.length) (ha : a < t.nodes.length) : t.below (rtA t.nodes i) (rtA t.nodes a) = belI t.nodes i (a : Int) := by
  rw [TreeS.below_eq, idx_rt hw hi]
  dsimp only
  unfold TreeS.place
  rw [idx_rt hw ha]
theorem growO_same {n : Nat} {o : List Int} (h : o.length = n) : growO n o = o := by unfold growO; rw [h, Nat.sub_self, List.replicate_zero, List.append_nil]
theorem grow_oA (n : Nat) (o : List Int) (j : Nat) : oA (growO n o) j = oA o j := oA_zeros
def stepA (s : TreeS × List Int) (a : WAct) : TreeS × List Int := if a.kind = 0 then stepW s a else s
def runA (xs : List WAct) : TreeS × List Int := xs.foldl stepA s0W
theorem runA_succ {xs : List WAct} {i : Nat} (h : i < xs.length) : runA (xs.take (i + 1)) = stepA (runA (xs.take i)) xs[i] := by
  unfold runA
  rw [List.take_succ_eq_append_getElem h, List.foldl_append]
  rfl
theorem OKW.runA (xs : List WAct) : OKW (runA xs) ∧ (Go.SL.runA xs).2 = s0W.2 := by
  have key : ∀ m, m ≤ xs.length → OKW (Go.SL.runA (xs.take m)) ∧ (Go.SL.runA (xs.take m)).2 = s0W.2 := by
    intro m
    induction m with
    | zero => intro _; exact ⟨OKW.zero, rfl⟩
    | succ m ih =>
      intro hm
      obtain ⟨h1, h2⟩ := ih (by omega)
      rw [runA_succ (by omega)]
      unfold stepA
      by_cases hk : xs[m].kind = 0
      · rw [if_pos hk]
        refine ⟨h1.step _, ?_⟩
        rw [stepW_add hk]; exact h2
      · rw [if_neg hk]; exact ⟨h1, h2⟩
  have := key xs.length (Nat.le_refl _)
  rwa [List.take_length] at this
def addL (o : List Int) (l : List (Nat × Int)) : List Int := l.foldl (fun o p => o.set p.1 (oA o p.1 + p.2)) o
def addS (l : List (Nat × Int)) (j : Nat) : Int := (l.map fun p => if p.1 = j then p.2 else 0).sum
theorem addL_len (l : List (Nat × Int)) : ∀ o, (addL o l).length = o.length := by
  induction l with
  | nil => intro o; rfl
  | cons p r ih =>
    intro o
    show (addL (o.set p.1 (oA o p.1 + p.2)) r).length = _
    rw [ih, List.length_set]
theorem addL_at (l : List (Nat × Int)) : ∀ (o : List Int), (∀ p ∈ l, p.1 < o.length) → ∀ j, oA (addL o l) j = oA o j + addS l j := by
  induction l with
  | nil => intro o _ j; show oA o j = oA o j + 0; omega
  | cons p r ih =>
    intro o h j
    show oA (addL (o.set p.1 (oA o p.1 + p.2)) r) j = _
    have hp := h p List.mem_cons_self
    rw [ih _ (fun q hq => by rw [List.length_set]; exact h q (List.mem_cons_of_mem _ hq)), oA_set hp]
    have e : addS (p :: r) j = (if p.1 = j then p.2 else 0) + addS r j := rfl
    rw [e]
    by_cases q : j = p.1
    · rw [if_pos q, if_pos q.symm, q]; omega
    · rw [if_neg q, if_neg (fun h => q h.symm)]; omega
theorem addS_app (a b : List (Nat × Int)) (j : Nat) : addS (a ++ b) j = addS a j + addS b j := by unfold addS; rw [List.map_append, List.sum_append]
theorem oA_ext {a b : List Int} (h : a.length = b.length) (he : ∀ j, oA a j = oA b j) : a = b := by
  apply List.ext_getElem h
  intro j h1 h2
  rw [← oA_get h1, ← oA_get h2, he j]
def toD (ns : List Node) (p : Nat × Int) : Delta := ⟨rtA ns p.1, p.2⟩
theorem step_add {t : TreeS} (hw : t.WF) {o : List Int} (ho : OwnOK o) (hl : o.length = t.nodes.length) {p : Nat × Int} (hp : p.1 < t.nodes.length) (h0 : 0 ≤ p.2) (h1 : tot o + p.2 < 4611686018427387904) : stepO t.nodes o (toD t.nodes p) = (0, addL o [p]) ∧ OwnOK (addL o [p]) ∧ tot (addL o [p]) = tot o + p.2 := by
  have hn := ho.nn p.1
  have hle := sg_get (f := oA o) (m := o.length) (fun j _ => ho.nn j) (i := p.1) (by omega)
  have htt : 0 ≤ tot o := sg_nonneg fun j _ => ho.nn j
  have htt2 : oA o p.1 ≤ tot o := hle
  have e1 : tot (addL o [p]) = tot o + p.2 := by
    show tot (o.set p.1 (oA o p.1 + p.2)) = _
    rw [tot_set (by omega)]; omega
  refine ⟨stepO_in (i := p.1) (idx_rt hw hp) (by show ¬ (p.2 ≤ _ ∨ _ ≤ p.2); omega) (by show ¬ (oA o p.1 + p.2 < 0 ∨ _ ≤ oA o p.1 + p.2); omega), ⟨fun j => ?_, by rw [e1]; exact h1⟩, e1⟩
  show 0 ≤ oA (o.set p.1 (oA o p.1 + p.2)) j
  rw [oA_set (by omega)]
  split
  · omega
  · exact ho.nn j
def psum (l : List (Nat × Int)) : Int := (l.map (·.2)).sum
theorem run_add {t : TreeS} (hw : t.WF) : ∀ (l : List (Nat × Int)) {o : List Int}, OwnOK o → o.length = t.nodes.length → (∀ p ∈ l, p.1 < t.nodes.length ∧ 0 ≤ p.2) → tot o + psum l < 4611686018427387904 → runO t.nodes o (l.map (toD t.nodes)) = (0, addL o l) ∧ OwnOK (addL o l)
  | [], o, ho, _, _, _ => ⟨rfl, ho⟩
  | p :: r, o, ho, hl, hp, hs => by
    have hr : 0 ≤ psum r := by
      have : ∀ (r : List (Nat × Int)), (∀ p ∈ r, 0 ≤ p.2) → 0 ≤ psum r := fun r => by
        induction r with
        | nil => intro _; exact Int.le_refl _
        | cons q r ih =>
          intro h
          have h1 := ih fun p hp => h p (List.mem_cons_of_mem _ hp)
          have h2 := h q List.mem_cons_self
          show 0 ≤ q.2 + psum r
          omega
      exact this r fun q hq => (hp q (List.mem_cons_of_mem _ hq)).2
    have hs2 : tot o + (p.2 + psum r) < 4611686018427387904 := hs
    have h0 := hp p List.mem_cons_self
    obtain ⟨e1, e2, e3⟩ := step_add hw ho hl h0.1 h0.2 (by omega)
    obtain ⟨e4, e5⟩ := run_add hw r e2 (by rw [addL_len]; exact hl) (fun q hq => hp q (List.mem_cons_of_mem _ hq)) (by rw [e3]; omega)
    refine ⟨?_, e5⟩
    show (if (stepO t.nodes o (toD t.nodes p)).1 = 0 then runO t.nodes (stepO t.nodes o (toD t.nodes p)).2 (r.map (toD t.nodes)) else _) = _
    rw [e1, if_pos rfl]
    exact e4
theorem apply_add {t : TreeS} (hw : t.WF) {l : List (Nat × Int)} {o : List Int} (ho : OwnOK o) (hl : o.length = t.nodes.length) (hp : ∀ p ∈ l, p.1 < t.nodes.length ∧ 0 ≤ p.2) (hs : tot o + psum l < 4611686018427387904) : applyO t.nodes o (l.map (toD t.nodes)) = (0, addL o l) := by
  obtain ⟨h1, h2⟩ := run_add hw l ho hl hp hs
  unfold applyO
  dsimp only
  rw [growO_same hl, h1, if_pos rfl, if_pos h2.tt]
end Go.SL
namespace Go.SL
theorem applyO_grow (ns : List Node) (o : List Int) (l : List Delta) (h : o.length ≤ ns.length) : applyO ns o l = applyO ns (growO ns.length o) l := by
  unfold applyO
  dsimp only
  rw [growO_same (growO_len h)]
def stepZ (s : TreeS × List Int) (a : WAct) : TreeS × List Int := stepW s { a with kind := 0 }
def runZ (xs : List WAct) : TreeS × List Int := xs.foldl stepZ s0W
theorem runZ_succ {xs : List WAct} {i : Nat} (h : i < xs.length) : runZ (xs.take (i + 1)) = stepZ (runZ (xs.take i)) xs[i] := by
  unfold runZ
  rw [List.take_succ_eq_append_getElem h, List.foldl_append]
  rfl
theorem OKW.runZ (xs : List WAct) : OKW (Go.SL.runZ xs) ∧ (Go.SL.runZ xs).2 = s0W.2 := by
  have key : ∀ m, m ≤ xs.length → OKW (Go.SL.runZ (xs.take m)) ∧ (Go.SL.runZ (xs.take m)).2 = s0W.2 := by
    intro m
    induction m with
    | zero => intro _; exact ⟨OKW.zero, rfl⟩
    | succ m ih =>
      intro hm
      obtain ⟨h1, h2⟩ := ih (by omega)
      rw [runZ_succ (by omega)]
      unfold stepZ
      refine ⟨h1.step _, ?_⟩
      rw [stepW_add rfl]
      exact h2
  have := key xs.length (Nat.le_refl _)
  rwa [List.take_length] at this
def pl (n : Nat) (at_ more : List Int) (i : Nat) : List (Nat × Int) := (List.range i).map fun j => (u64N (oA at_ j) % n, oA more j)
end Go.SL

set_option linter.unusedVariables false
set_option linter.unusedSimpArgs false
namespace Go.SL
def slA (ns : List Node) (i : Nat) : Int := ((ns[i]?).getD nodeNo).slot
theorem slA_get {ns : List Node} {i : Nat} (h : i < ns.length) : slA ns i = ns[i].slot := by simp [slA, h]
/-- those of the first m that stand below a -/
def selI (ns : List Node) (a m : Nat) : List Nat := (List.range m).filter fun i : Nat => belI ns a (i : Int)
def rk (ns : List Node) (a j : Nat) : Nat := (selI ns a j).length
def pnode (ns : List Node) (a i : Nat) : Node := ⟨rtA ns i, slA ns i, if i = a then -1 else ((rk ns a (prA ns i).toNat : Nat) : Int)⟩
def prN (ns : List Node) (a m : Nat) : List Node := (selI ns a m).map (pnode ns a)
def prT (t : TreeS) (a : Nat) : TreeS := ⟨prN t.nodes a t.nodes.length, t.most⟩
def prO (ns : List Node) (a : Nat) (o : List Int) : List Int := (selI ns a ns.length).map (oA o)
section
variable {ns : List Node} {a m i j k x y : Nat}
theorem selI_succ (ns : List Node) (a m : Nat) : selI ns a (m + 1) = if belI ns a (m : Int) = true then selI ns a m ++ [m] else selI ns a m := by
  unfold selI
  rw [List.range_succ, List.filter_append]
  by_cases h : belI ns a (m : Int) = true
  · rw [if_pos h]; simp [List.filter_cons, h]
  · rw [if_neg h]; simp [List.filter_cons, h]
theorem mem_selI : i ∈ selI ns a m ↔ i < m ∧ belI ns a (i : Int) = true := by simp [selI]
theorem selI_low (h : m ≤ a) : selI ns a m = [] := by
  unfold selI
  rw [List.filter_eq_nil_iff]
  intro i hi
  rw [List.mem_range] at hi
  rw [belI_lt (by omega)]; simp
theorem selI_first : selI ns a (a + 1) = [a] := by rw [selI_succ, selI_low (Nat.le_refl _), if_pos belI_eq]; rfl
theorem rk_self : rk ns a a = 0 := by unfold rk; rw [selI_low (Nat.le_refl _)]; rfl
theorem rk_succ (ns : List Node) (a m : Nat) : rk ns a (m + 1) = rk ns a m + if belI ns a (m : Int) = true then 1 else 0 := by
  unfold rk; rw [selI_succ]; split <;> simp
theorem rk_mono (h : i ≤ j) : rk ns a i ≤ rk ns a j := by
  induction j with
  | zero => rw [Nat.le_zero.1 h]; exact Nat.le_refl _
  | succ j ih =>
    rcases Nat.lt_or_ge i (j + 1) with h2 | h2
    · have := ih (by omega); rw [rk_succ]; omega
    · rw [show i = j + 1 by omega]; exact Nat.le_refl _
theorem rk_lt (h : i < j) (hb : belI ns a (i : Int) = true) : rk ns a i < rk ns a j := by
  have h1 := rk_succ ns a i
  rw [if_pos hb] at h1
  have := rk_mono (ns := ns) (a := a) (show i + 1 ≤ j by omega)
  omega
theorem rk_le (ns : List Node) (a m : Nat) : rk ns a m ≤ m := by
  unfold rk selI; have := List.length_filter_le (fun i : Nat => belI ns a (i : Int)) (List.range m); simpa using this
theorem selI_nodup : (selI ns a m).Nodup := List.nodup_range.filter _
theorem selI_rk : ∀ {m i : Nat}, i < m → belI ns a (i : Int) = true → (selI ns a m)[rk ns a i]? = some i
  | 0, _, h, _ => absurd h (Nat.not_lt_zero _)
  | m + 1, i, h, hb => by
    rw [selI_succ]
    rcases Nat.lt_or_ge i m with h2 | h2
    · have h3 := selI_rk h2 hb
      have h4 := (List.getElem?_eq_some_iff.1 h3).1
      split
      · rw [List.getElem?_append_left h4]; exact h3
      · exact h3
    · have e : i = m := by omega
      subst e
      rw [if_pos hb]
      unfold rk
      rw [List.getElem?_append_right (Nat.le_refl _), Nat.sub_self]; rfl
theorem selI_at (h : k < rk ns a m) : ∃ i, (selI ns a m)[k]? = some i ∧ i < m ∧ belI ns a (i : Int) = true ∧ rk ns a i = k := by
  have hk : k < (selI ns a m).length := h
  obtain ⟨h1, h2⟩ := mem_selI.1 (List.getElem_mem hk)
  have h3 := selI_rk h1 h2
  refine ⟨(selI ns a m)[k], List.getElem?_eq_getElem hk, h1, h2, ?_⟩
  exact nodup_get selI_nodup h3 (List.getElem?_eq_getElem hk)
theorem prN_len (ns : List Node) (a m : Nat) : (prN ns a m).length = rk ns a m := by simp [prN, rk]
theorem prN_succ (ns : List Node) (a m : Nat) : prN ns a (m + 1) = if belI ns a (m : Int) = true then prN ns a m ++ [pnode ns a m] else prN ns a m := by
  unfold prN; rw [selI_succ]; split <;> simp
theorem prN_rk (hi : i < m) (hb : belI ns a (i : Int) = true) : (prN ns a m)[rk ns a i]? = some (pnode ns a i) := by
  unfold prN; rw [List.getElem?_map, selI_rk hi hb]; rfl
theorem rt_pr (hi : i < m) (hb : belI ns a (i : Int) = true) : rtA (prN ns a m) (rk ns a i) = rtA ns i := by unfold rtA; rw [prN_rk hi hb]; rfl
theorem sl_pr (hi : i < m) (hb : belI ns a (i : Int) = true) : slA (prN ns a m) (rk ns a i) = slA ns i := by unfold slA; rw [prN_rk hi hb]; rfl
theorem prN_first (ns : List Node) (a : Nat) : prN ns a (a + 1) = [⟨rtA ns a, slA ns a, -1⟩] := by unfold prN pnode; rw [selI_first]; simp
theorem belI_up1 (hp : Par ns) (hi : i < ns.length) (hb : belI ns a (i : Int) = true) (hne : i ≠ a) : ∃ j : Nat, prA ns i = j ∧ j < i ∧ belI ns a (j : Int) = true ∧ slA ns j < slA ns i := by
  have h1 := belI_pr hp hi hne
  rcases hp.rg hi with ⟨_, h⟩ | ⟨j, h, h2⟩
  · rw [h1, h, belI_neg (by omega)] at hb; cases hb
  · refine ⟨j, h, h2, by rw [h1, h] at hb; exact hb, ?_⟩
    rcases hp i ns[i] (List.getElem?_eq_getElem hi) with ⟨_, h3⟩ | ⟨j', n, h3, h4, h5, h6⟩
    · rw [prA_get hi] at h; omega
    · rw [prA_get hi] at h
      obtain rfl : j' = j := by omega
      rw [slA_get hi]; unfold slA; rw [h5]; exact h6
theorem idx_prN {t : TreeS} (hw : t.WF) (hm : m ≤ t.nodes.length) (hi : i < t.nodes.length) : idxOf (prN t.nodes a m) (rtA t.nodes i) = if i < m ∧ belI t.nodes a (i : Int) = true then some (rk t.nodes a i) else none := by
  have hnd : ((prN t.nodes a m).map (·.root)).Nodup := by
    have e : (prN t.nodes a m).map (·.root) = (selI t.nodes a m).map (rtA t.nodes) := by unfold prN; rw [List.map_map]; rfl
    rw [e]
    refine List.pairwise_map.2 (List.Pairwise.imp_of_mem ?_ selI_nodup)
    intro x y hx hy hne h
    have h1 := (mem_selI.1 hx).1; have h2 := (mem_selI.1 hy).1
    exact hne (rtA_inj hw.nd (by omega) (by omega) h)
  by_cases h : i < m ∧ belI t.nodes a (i : Int) = true
  · rw [if_pos h]
    have := idxOf_get hnd (prN_rk h.1 h.2)
    exact this
  · rw [if_neg h, idxOf_none]
    intro n hn e
    obtain ⟨k, hk, rfl⟩ := List.mem_map.1 hn
    obtain ⟨h1, h2⟩ := mem_selI.1 hk
    have : k = i := rtA_inj hw.nd (by omega) hi e
    subst this
    exact h ⟨h1, h2⟩
theorem prN_par (hp : Par ns) (hm : m ≤ ns.length) : Par (prN ns a m) := by
  intro k n hk
  have hk2 : k < rk ns a m := by have := (List.getElem?_eq_some_iff.1 hk).1; rwa [prN_len] at this
  obtain ⟨i, h1, h2, h3, h4⟩ := selI_at hk2
  have h5 := prN_rk h2 h3
  rw [h4, hk] at h5
  obtain rfl : n = pnode ns a i := Option.some.inj h5
  by_cases e : i = a
  · subst e
    exact .inl ⟨by rw [← h4]; exact rk_self, by unfold pnode; rw [if_pos rfl]⟩
  · obtain ⟨j, e1, e2, e3, e4⟩ := belI_up1 hp (show i < ns.length by omega) h3 e
    refine .inr ⟨rk ns a j, pnode ns a j, by unfold pnode; dsimp only; rw [if_neg e, e1]; rfl, by rw [← h4]; exact rk_lt e2 e3, prN_rk (by omega) e3, e4⟩
theorem prT_wf {t : TreeS} (hw : t.WF) (ha : a < t.nodes.length) : (prT t a).WF := by
  have hl : (prT t a).nodes.length = rk t.nodes a t.nodes.length := prN_len _ _ _
  have h1 := rk_le t.nodes a t.nodes.length
  have h2 := rk_lt (ns := t.nodes) ha belI_eq
  have h3 := hw.le
  refine ⟨?_, by omega, hw.m1, hw.m2, by show (_ : Int) ≤ t.most; omega, ?_, prN_par hw.pa (Nat.le_refl _)⟩
  · have e : (prN t.nodes a t.nodes.length).map (·.root) = (selI t.nodes a t.nodes.length).map (rtA t.nodes) := by unfold prN; rw [List.map_map]; rfl
    show ((prN t.nodes a t.nodes.length).map (·.root)).Nodup
    rw [e]
    refine List.pairwise_map.2 (List.Pairwise.imp_of_mem ?_ selI_nodup)
    intro x y hx hy hne h
    exact hne (rtA_inj hw.nd (mem_selI.1 hx).1 (mem_selI.1 hy).1 h)
  · intro n hn
    obtain ⟨k, hk, rfl⟩ := List.mem_map.1 hn
    have h4 := (mem_selI.1 hk).1
    have := hw.sl _ (List.getElem_mem h4)
    show 0 ≤ slA t.nodes k ∧ slA t.nodes k ≤ 1073741824
    rw [slA_get h4]; exact this
/-- a step of the pruning -/
theorem prT_step {t : TreeS} (hw : t.WF) (ham : a < m) (hm : m < t.nodes.length) {j : Nat} (hj : prA t.nodes m = j) : (⟨prN t.nodes a m, t.most⟩ : TreeS).place (rtA t.nodes j) = if belI t.nodes a (m : Int) = true then ((rk t.nodes a j : Nat) : Int) else -1 := by
  have hjm : j < m := by rcases hw.pa.rg hm with ⟨h, _⟩ | ⟨j', h, h2⟩ <;> omega
  have hb := belI_pr hw.pa hm (show m ≠ a by omega)
  rw [hj] at hb
  unfold TreeS.place
  dsimp only
  rw [idx_prN hw (by omega) (by omega), hb]
  by_cases h : belI t.nodes a (j : Int) = true
  · rw [if_pos ⟨hjm, h⟩, if_pos h]
  · rw [if_neg (fun q => h q.2), if_neg h]
theorem prT_add {t : TreeS} (hw : t.WF) (ham : a < m) (hm : m < t.nodes.length) {j : Nat} (hj : prA t.nodes m = j) (hb : belI t.nodes a (m : Int) = true) : (⟨prN t.nodes a m, t.most⟩ : TreeS).add (rtA t.nodes m) (rtA t.nodes j) (slA t.nodes m) = (0, ⟨prN t.nodes a (m + 1), t.most⟩) := by
  obtain ⟨j', e1, hjm, hbj, hs⟩ := belI_up1 hw.pa hm hb (show m ≠ a by omega)
  obtain rfl : j' = j := by omega
  have hle := hw.le
  have hlt : rk t.nodes a m < t.nodes.length := by have := rk_le t.nodes a m; omega
  have hsl := hw.sl _ (List.getElem_mem hm)
  have hsm := slA_get hm
  have hi1 : idxOf (prN t.nodes a m) (rtA t.nodes m) = none := by rw [idx_prN hw (by omega) hm, if_neg (fun q => absurd q.1 (Nat.lt_irrefl m))]
  have hi2 : idxOf (prN t.nodes a m) (rtA t.nodes j') = some (rk t.nodes a j') := by rw [idx_prN hw (by omega) (by omega), if_pos ⟨hjm, hbj⟩]
  have hg : (((prN t.nodes a m)[rk t.nodes a j']?).getD nodeNo).slot = slA t.nodes j' := sl_pr hjm hbj
  unfold TreeS.add
  dsimp only
  rw [hi1, if_neg (by simp), hi2]
  dsimp only
  rw [if_neg (by rw [hg]; omega), prN_len, if_neg (by omega), prN_succ, if_pos hb]
  simp only [pnode, if_neg (show m ≠ a by omega), e1, Int.toNat_natCast]
theorem prO_len (ns : List Node) (a : Nat) (o : List Int) : (prO ns a o).length = rk ns a ns.length := by simp [prO, rk]
theorem prO_at {o : List Int} (hi : i < ns.length) (hb : belI ns a (i : Int) = true) : oA (prO ns a o) (rk ns a i) = oA o i := by
  unfold prO oA; rw [List.getD_eq_getElem?_getD, List.getElem?_map, selI_rk hi hb]; rfl
end
end Go.SL

set_option linter.unusedVariables false
set_option linter.unusedSimpArgs false
namespace Go.SL
section
variable {ns : List Node} {a m i j k x y : Nat}
/-- an index, moved -/
def mvI (ns : List Node) (a : Nat) (b : Int) : Int := if b < 0 then -1 else ((rk ns a b.toNat : Nat) : Int)
def prR (ns : List Node) (a m : Nat) : List Root := (selI ns a m).map (rtA ns)
def prS (ns : List Node) (a m : Nat) : List Int := (selI ns a m).map (slA ns)
def upR (ns : List Node) (a i : Nat) : Root := if i = a then Root.zero else (parR ns).getD i Root.zero
def prP (ns : List Node) (a m : Nat) : List Root := (selI ns a m).map (upR ns a)
def prOm (ns : List Node) (a m : Nat) (o : List Int) : List Int := (selI ns a m).map (oA o)
theorem pr_ref {t : TreeS} (hw : t.WF) (a : Nat) : RTreeOf (prT t a) (prR t.nodes a t.nodes.length) (prS t.nodes a t.nodes.length) (prP t.nodes a t.nodes.length) := by
  refine ⟨?_, ?_, ?_⟩
  · unfold prR prT prN; dsimp only; rw [List.map_map]; rfl
  · unfold prS prT prN; dsimp only; rw [List.map_map]; rfl
  · unfold prP parR
    show _ = (prN t.nodes a t.nodes.length).map _
    unfold prN
    rw [List.map_map]
    refine List.map_congr_left fun i hi => ?_
    obtain ⟨h1, h2⟩ := mem_selI.1 hi
    show upR t.nodes a i = if 0 ≤ (pnode t.nodes a i).parent then _ else _
    unfold upR
    by_cases e : i = a
    · rw [if_pos e]; unfold pnode; dsimp only; rw [if_pos e, if_neg (by decide)]
    · obtain ⟨j, e1, e2, e3, _⟩ := belI_up1 hw.pa h1 h2 e
      have e4 := rt_pr (m := t.nodes.length) (show j < t.nodes.length by omega) e3
      rw [if_neg e]
      unfold pnode; dsimp only; rw [if_neg e, if_pos (by omega), e1, Int.toNat_natCast, Int.toNat_natCast]
      refine Eq.trans ?_ e4.symm
      have e5 : t.nodes[i].parent = j := by rw [← prA_get h1]; exact e1
      unfold parR
      rw [List.getD_eq_getElem?_getD, List.getElem?_map, List.getElem?_eq_getElem h1]
      show (if 0 ≤ t.nodes[i].parent then _ else _) = _
      rw [e5, if_pos (by omega), Int.toNat_natCast]; rfl
theorem pr_deltas {t : TreeS} (hw : t.WF) (ha : a < t.nodes.length) {o : List Int} (hl : o.length ≤ t.nodes.length) (h : OwnOK o) :
    applyO (prT t a).nodes (growO (prT t a).nodes.length []) ((selI t.nodes a t.nodes.length).map fun i => (⟨rtA t.nodes i, oA o i⟩ : Delta)) = (0, prO t.nodes a o) := by
  have hw2 := prT_wf hw ha
  have hn : (prT t a).nodes.length = rk t.nodes a t.nodes.length := prN_len _ _ _
  have hg : (growO (prT t a).nodes.length []).length = (prT t a).nodes.length := growO_len (Nat.zero_le _)
  have hz : ∀ j, oA (growO (prT t a).nodes.length []) j = 0 := fun j => by rw [grow_oA]; rfl
  have e1 : ((selI t.nodes a t.nodes.length).map fun i => (⟨rtA t.nodes i, oA o i⟩ : Delta)) = ((selI t.nodes a t.nodes.length).map fun i => (rk t.nodes a i, oA o i)).map (toD (prT t a).nodes) := by
    rw [List.map_map]
    refine List.map_congr_left fun i hi => ?_
    obtain ⟨h1, h2⟩ := mem_selI.1 hi
    show (⟨rtA t.nodes i, oA o i⟩ : Delta) = toD (prT t a).nodes (rk t.nodes a i, oA o i)
    unfold toD
    rw [show rtA (prT t a).nodes (rk t.nodes a i) = rtA t.nodes i from rt_pr h1 h2]
  have hps : ∀ (l : List Nat), psum (l.map fun i => (rk t.nodes a i, oA o i)) = (l.map (oA o)).sum := fun l => by unfold psum; rw [List.map_map]; rfl
  have hto : tot (growO (prT t a).nodes.length []) = 0 := sg_zero fun j _ => hz j
  have hsum : ((selI t.nodes a t.nodes.length).map (oA o)).sum = sumN t.nodes o a := by
    have k2 : ∀ m, ((selI t.nodes a m).map (oA o)).sum = sg (fun j => if belI t.nodes a (j : Int) = true then oA o j else 0) m := by
      intro m
      induction m with
      | zero => rfl
      | succ m ih => rw [selI_succ, sg_succ, ← ih]; split <;> simp
    rw [k2]
    exact sg_ext hl fun j h3 _ => by rw [oA_out h3]; simp
  have hst := sumN_tot (ns := t.nodes) (a := a) h.nn
  have htt := h.tt
  rw [e1, apply_add hw2 (o := growO (prT t a).nodes.length []) (OwnOK.nil.zeros _) hg (fun p hp => by
    obtain ⟨i, hi, rfl⟩ := List.mem_map.1 hp
    obtain ⟨h1, h2⟩ := mem_selI.1 hi
    exact ⟨by rw [hn]; exact rk_lt h1 h2, h.nn i⟩) (by rw [hps, hsum, hto]; omega)]
  congr 1
  refine oA_ext (by rw [addL_len, hg, hn, prO_len]) fun j => ?_
  rw [addL_at _ _ (fun p hp => by
    obtain ⟨i, hi, rfl⟩ := List.mem_map.1 hp
    obtain ⟨h1, h2⟩ := mem_selI.1 hi
    rw [hg, hn]; exact rk_lt h1 h2), hz, Int.zero_add]
  have key : ∀ m, m ≤ t.nodes.length → addS ((selI t.nodes a m).map fun i => (rk t.nodes a i, oA o i)) j = if j < rk t.nodes a m then oA (prO t.nodes a o) j else 0 := by
    intro m
    induction m with
    | zero => intro _; rw [if_neg (by unfold rk; rw [selI_low (Nat.zero_le _)]; simp)]; rfl
    | succ m ih =>
      intro hm
      rw [selI_succ, rk_succ]
      by_cases hb : belI t.nodes a (m : Int) = true
      · rw [if_pos hb, if_pos hb, List.map_append, addS_app, ih (by omega)]
        have e4 : addS ([m].map fun i => (rk t.nodes a i, oA o i)) j = if rk t.nodes a m = j then oA o m else 0 := by simp [addS]
        rw [e4]
        by_cases e5 : rk t.nodes a m = j
        · rw [if_neg (by omega), if_pos e5, if_pos (by omega), ← e5, prO_at (by omega) hb]; omega
        · rw [if_neg e5]
          by_cases e6 : j < rk t.nodes a m
          · rw [if_pos e6, if_pos (by omega)]; omega
          · rw [if_neg e6, if_neg (by omega)]; rfl
      · rw [if_neg hb, if_neg hb, Nat.add_zero]; exact ih (by omega)
  rw [key _ (Nat.le_refl _)]
  split
  · rfl
  · exact (oA_out (by rw [prO_len]; omega)).symm
end
end Go.SL

set_option linter.unusedVariables false
set_option linter.unusedSimpArgs false
namespace Go.SL
def t0M : TreeS := TreeS.new (nameR 0) 0 100
def inM (b : PBlk) : Bool := decide (0 ≤ b.n) && decide (b.n ≤ 1099511627776)
def stepM (s : TreeS × List Delta) (b : PBlk) : TreeS × List Delta :=
  let t := (s.1.add (nameR b.root) (nameR b.parent) b.slot).2
  (t, if 0 ≤ t.place (nameR b.root) then s.2 ++ [⟨nameR b.root, b.n⟩] else s.2)
def runM (xs : List PBlk) : TreeS × List Delta := xs.foldl stepM (t0M, [])
def ownM (xs : List PBlk) : List Int := (applyO (runM xs).1.nodes (growO (runM xs).1.nodes.length []) (runM xs).2).2
theorem runM_succ {xs : List PBlk} {i : Nat} (h : i < xs.length) : runM (xs.take (i + 1)) = stepM (runM (xs.take i)) xs[i] := by
  unfold runM
  rw [List.take_succ_eq_append_getElem h, List.foldl_append]
  rfl
structure OKM (s : TreeS) : Prop where
  wf : s.WF
  first : (s.nodes[0]?).map (·.root) = some (nameR 0)
theorem OKM.add {s : TreeS} (h : OKM s) (r p : Root) (sl : Int) : OKM (s.add r p sl).2 := by
  obtain ⟨_, xs, e⟩ := s.add_most r p sl
  refine ⟨h.wf.add _ _ _, ?_⟩
  rw [e, List.getElem?_append_left h.wf.ne]; exact h.first
theorem OKM.zero : OKM t0M := ⟨TreeS.WF.new (by decide) (by decide) (by decide) (by decide), rfl⟩
theorem OKM.take (xs : List PBlk) : ∀ m, m ≤ xs.length → OKM (runM (xs.take m)).1 ∧ (runM (xs.take m)).2.length ≤ m := by
  intro m
  induction m with
  | zero => intro _; exact ⟨OKM.zero, Nat.le_refl _⟩
  | succ m ih =>
    intro hm
    rw [runM_succ (by omega)]
    obtain ⟨h1, h2⟩ := ih (by omega)
    refine ⟨h1.add _ _ _, ?_⟩
    unfold stepM; dsimp only; split
    · rw [List.length_append, List.length_singleton]; omega
    · omega
theorem OKM.run (xs : List PBlk) : OKM (runM xs).1 ∧ (runM xs).2.length ≤ xs.length := by
  have := OKM.take xs xs.length (Nat.le_refl _)
  rwa [List.take_length] at this
/-- the deltas of the first k that are left -/
def delP (ns : List Node) (a : Nat) (o : List Int) (k : Nat) : List Delta := ((selI ns a ns.length).take k).map fun i => (⟨rtA ns i, oA o i⟩ : Delta)
theorem delP_len (ns : List Node) (a : Nat) (o : List Int) {k : Nat} (h : k ≤ rk ns a ns.length) : (delP ns a o k).length = k := by
  unfold delP; rw [List.length_map, List.length_take]; exact Nat.min_eq_left h
theorem delP_succ {ns : List Node} {a : Nat} {o : List Int} {k i : Nat} (h : (selI ns a ns.length)[k]? = some i) : delP ns a o (k + 1) = delP ns a o k ++ [⟨rtA ns i, oA o i⟩] := by
  unfold delP
  obtain ⟨h1, h2⟩ := List.getElem?_eq_some_iff.1 h
  rw [List.take_succ_eq_append_getElem h1, List.map_append, h2]; rfl
theorem delP_all {t : TreeS} (hw : t.WF) {a : Nat} (ha : a < t.nodes.length) {o : List Int} (hl : o.length ≤ t.nodes.length) (h : OwnOK o) {k : Nat} (hk : k = rk t.nodes a t.nodes.length) :
    applyO (prT t a).nodes (growO (prT t a).nodes.length []) (delP t.nodes a o k) = (0, prO t.nodes a o) := by
  rw [← pr_deltas hw ha hl h]
  unfold delP
  rw [List.take_of_length_le (by rw [hk]; exact Nat.le_refl _)]
theorem prT_len (t : TreeS) (a : Nat) : (prT t a).nodes.length = rk t.nodes a t.nodes.length := prN_len _ _ _
theorem prT_roots_len (t : TreeS) (a : Nat) : (prT t a).roots.length = rk t.nodes a t.nodes.length := by rw [roots_len, prT_len]
theorem prT_root {t : TreeS} {a k i : Nat} (h : (selI t.nodes a t.nodes.length)[k]? = some i) (hk : k < (prT t a).roots.length) : (prT t a).roots[k] = rtA t.nodes i := by
  have e : (prT t a).roots[k]? = some (rtA t.nodes i) := by
    unfold prT TreeS.roots prN; dsimp only; rw [List.map_map, List.getElem?_map, h]; rfl
  exact (List.getElem?_eq_some_iff.1 e).2
theorem ofF_rt2 {t : TreeS} (hw : t.WF) {o : List Int} {i : Nat} (hi : i < t.nodes.length) : ofF t o.length (oA o) (rtA t.nodes i) = oA o i := by
  rcases Nat.lt_or_ge i o.length with h | h
  · exact ofF_rt hw hi h
  · unfold ofF; rw [idx_rt hw hi]; dsimp only; rw [if_neg (by omega), oA_out h]
end Go.SL

set_option linter.unusedVariables false
set_option linter.unusedSimpArgs false
namespace Go.SL
open Go.Proofs

theorem TNewOk_calls {w0 w : World} {l : List HProp} (r : Root) (slot most : Int) (hs : Sat w0 w l) (h : 1 ≤ most ∧ most ≤ 256 ∧ 0 ≤ slot ∧ slot ≤ 1073741824) :
  Calls Try.prog 45 #[.agg (rootC r).toArray, .int .i64 slot, .int .i64 most] w (Ret w0 fun v l' => ∃ p, v = .tuple #[.pointer (some ⟨p, 0, none⟩), .int .i64 0] ∧ l' = TreeObj p (TreeS.new r slot most) :: l) :=
 (TNew_calls r slot most hs).mono fun e w' ⟨v, l', he, hp, hs'⟩ => by
  rcases hp with ⟨_, _, hb⟩ | ⟨p, hv, _, hl⟩
  ·omega
  exact ⟨v, l', he, ⟨p, hv, hl⟩, hs'⟩

set_option maxRecDepth 100000 in
set_option maxHeartbeats 1000000 in
theorem PTreeN_calls {w0 w : World} {l : List HProp} (p : Nat) (t : TreeS) (r : Root) (hs : Sat w0 w ((TreeObj p t) :: l)) (hi : idxOf t.nodes r = none) :
  Calls Try.prog 15 #[.pointer (some ⟨p, 0, none⟩), .agg (rootC r).toArray] w (Ret w0 fun v l' => v = .tuple #[.pointer none, .int .i64 7] ∧ l' = TreeObj p t :: l) := by
 have hw := hs.treeWF
 have hm1 := hw.m1; have hm2 := hw.m2; have hle := hw.le; have hne := hw.ne
 have hpl : t.place r = -1 := by unfold TreeS.place; rw [hi]
 have hna : t.node (t.place r) = none := by rw [hpl]; rfl
 refine calls_enter Try.func15 rfl rfl rfl hs ?_
 refine Zj ?_; intro bx1
 refine Zc ?_
 refine Z5a ?_
 refine Z6c ?_
 refine Z2c ?_
 refine Z3i ?_
 refine Z2k ?_
 refine Z9 ?_
 refine Z9h ?_
 refine oi (os_call cb_24 rfl (fun w s => Node_calls _ _ _  s )) ?_; rintro _ _ ⟨rfl, rfl⟩; rw [hna]
 refine Z3r ?_
 refine Z3k ?_; intro bx2
 refine Z4a ?_
 refine Z3v ?_
 refine Z1 ?_
 refine cd_cond rfl (fun hb1 => ?_) (fun hb1 => ?_)
 ·have hp1 := hb1
  (try simp only [bn] at hp1)
  refine Z31 ?_
  refine Zp ?_
  refine Z13 ?_
  exact px_ret2 rfl (v1 := .pointer _) (v2 := .int _ _) rfl rfl (fun _ s => ((s.del 2).del 0)) ⟨rfl, rfl⟩
 have hp1 := hb1
 (try simp only [bn] at hp1)
 exact absurd hb1 (by simp)

set_option maxRecDepth 100000 in
set_option maxHeartbeats 1000000 in
theorem PTreeS_calls {w0 w : World} {l : List HProp} (p : Nat) (t : TreeS) (r : Root) (a : Nat) (hs : Sat w0 w ((TreeObj p t) :: l)) (hi : idxOf t.nodes r = some a) :
  Calls Try.prog 15 #[.pointer (some ⟨p, 0, none⟩), .agg (rootC r).toArray] w (Ret w0 fun v l' => ∃ q, v = .tuple #[.pointer (some ⟨q, 0, none⟩), .int .i64 0] ∧ l' = TreeObj q (prT t a) :: TreeObj p t :: l) := by
 have hw := hs.treeWF
 have hm1 := hw.m1; have hm2 := hw.m2; have hle := hw.le; have hne := hw.ne
 have hla := idxOf_lt hi
 have hsa := hw.sl _ (List.getElem_mem hla)
 have hsl := slA_get hla
 have hra : rtA t.nodes a = r := by obtain ⟨n, h1, h2⟩ := idxOf_some hi; unfold rtA; rw [h1]; exact h2
 have hpl : t.place r = (a : Int) := by unfold TreeS.place; rw [hi]
 have hna : t.node (t.place r) = t.nodes[a]? := by rw [hpl, TreeS.node_at]
 refine calls_enter Try.func15 rfl rfl rfl hs ?_
 refine Zj ?_; intro bx1
 refine Zc ?_
 refine Z5a ?_
 refine Z6c ?_
 refine Z2c ?_
 refine Z3i ?_
 refine Z2k ?_
 refine Z9 ?_
 refine Z9h ?_
 refine oi (os_call cb_24 rfl (fun w s => Node_calls _ _ _  s )) ?_; rintro _ _ ⟨rfl, rfl⟩; rw [hna]
 refine Z3r ?_
 refine Z3k ?_; intro bx2
 refine Z4a ?_
 refine Z3v ?_
 refine Z1 ?_
 refine cd_cond rfl (fun hb1 => ?_) (fun hb1 => ?_)
 ·have hp1 := hb1
  (try simp only [bn] at hp1)
  exact absurd hb1 (by rw [List.getElem?_eq_getElem hla]; simp)
 have hp1 := hb1
 (try simp only [bn] at hp1)
 refine Zn ?_
 refine cd_drawe (M := []) mx [4, 6, 8] ?_
 refine e_q 0 rfl (wn_none rfl) (op_lda (L := rootC _) 2 ag_24 rfl rfl (rootC_take' _) (by simp [rootC_len])) ?_
 refine e_q 1 rfl (wn_none rfl) (op_field fld_51_1 rfl) ?_
 refine e_q 2 rfl (wn_none rfl) (op_ld 0 sc_3 rfl rfl (show (nodeC _).toArray[32]? = some (.int .i64 (slA t.nodes a)) from nodeC_a32 _)) ?_
 refine e_q 3 rfl (wn_none rfl) (op_move (v := .pointer _) rfl) ?_
 refine e_q 5 rfl (wn_none rfl) (op_move (v := .pointer _) rfl) ?_
 refine Z2g ?_
 refine ei_i rfl rfl (wn_none rfl) (os_back (os_pull1 (os_call cb_29 rfl (fun w s => Len_calls _ _  s ))) (fun _ s => (((s.pull 2).pull 1).pull 2))) rfl ?_; rintro _ _ ⟨rfl, rfl⟩; refine ⟨[], rfl, ?_⟩
 refine Z14 ?_
 refine ei_i rfl rfl (wn_none rfl) (os_back (os_pull1 (os_call cb_21 rfl (fun w s => Room_calls _ _  s ))) (fun _ s => (((s.pull 2).pull 1).pull 2))) rfl ?_; rintro _ _ ⟨rfl, rfl⟩; refine ⟨[], rfl, ?_⟩
 refine e_q 7 rfl (wn_none rfl) (op_add rfl rfl (by omega) (by omega)) ?_
 refine Zy ?_
 refine ei_i rfl rfl (wn_none rfl) (os_call cb_45 rfl (fun w s => TNewOk_calls _ _ _  s (by omega))) rfl ?_; rintro _ _ ⟨np5, rfl, rfl⟩; rw [show (t.nodes.length : Int) + (t.most - t.nodes.length) = t.most by omega]; refine ⟨[_], rfl, ?_⟩
 refine e_q 9 rfl (wn_none rfl) (op_move (v := .tuple _) rfl) ?_
 refine e_q 10 rfl (wn_none rfl) (op_extract (v := .pointer _) rfl rfl) ?_
 refine e_q 11 rfl (wn_none rfl) (op_extract (v := .int _ _) rfl rfl) ?_
 refine e_q 12 rfl (wn_none rfl) (op_assign (v := .pointer _) rfl) ?_
 refine e_q 13 rfl (wn_none rfl) (op_assign (v := .int _ _) rfl) ?_
 refine Z16 ?_
 refine Z1q ?_
 refine oq (op_lda (L := rootC _) 3 ag_24 rfl rfl (rootC_take' _) (by simp [rootC_len])) ?_
 refine Zs ?_
 refine oi (os_call cb_31 rfl (fun w s => Place_calls _ _ _  s )) ?_; rintro _ _ ⟨rfl, rfl⟩; rw [hpl]
 refine oq (op_add rfl rfl (by omega) (by omega)) ?_
 refine Z3j ?_
 refine cd_pull1 ?_
 refine cd_loop2 (α := Nat) [(10, 14), (43, 74)] (fun x => [(10, .int .i64 (x : Int))]) (fun x => TreeObj np5 ⟨prN t.nodes a x, t.most⟩ :: _) (fun x => a < x ∧ x ≤ t.nodes.length) (fun x => t.nodes.length - x) (a + 1) ⟨Nat.lt_succ_self a, hla⟩ ⟨congrArg (Value.int .i64) (by simp), trivial⟩ (fun _ s => by (try dsimp only); rw [prN_first, hra]; exact s) ?_
 rintro i ⟨hai, hi0⟩ f; (try dsimp only at hai hi0 ⊢)
 refine Zf ?_
 refine Z1p ?_
 refine Z9 ?_
 refine Z9m ?_
 refine Z3u ?_
 refine cd_cond rfl (fun hb2 => ?_) (fun hb2 => ?_)
 ·have hp2 := hb2
  (try simp only [bn] at hp2)
  have hi1 : i < t.nodes.length := by omega
  obtain ⟨j, hpj, hj1⟩ : ∃ j : Nat, prA t.nodes i = j ∧ j < i := by
   rcases hw.pa.rg hi1 with ⟨h, _⟩ | h
   ·omega
   exact h
  have hpc : TreeS.place ⟨prN t.nodes a i, t.most⟩ ((t.nodes[j]?).getD nodeNo).root = if belI t.nodes a (i : Int) = true then ((rk t.nodes a j : Nat) : Int) else -1 := prT_step hw hai hi1 hpj
  refine Z3g ?_
  refine Zg ?_
  refine Z4 ?_
  refine oi (os_call cb_24 rfl (fun w s => Node_calls _ _ _  s )) ?_; rintro _ _ ⟨rfl, rfl⟩; rw [TreeS.node_at]
  refine Z3r ?_
  refine Z3k ?_; intro bx3
  refine Z4a ?_
  refine Zg ?_
  refine oq (op_field fld_51_2 rfl) ?_
  refine oq (op_ld 0 sc_3 rfl rfl (show (nodeC _).toArray[33]? = some (.int .i64 (prA t.nodes i)) from nodeC_a33 _)) ?_
  refine Z9 ?_
  refine oi (os_call cb_24 rfl (fun w s => Node_calls _ _ _  s )) ?_; rintro _ _ ⟨rfl, rfl⟩; rw [hpj, TreeS.node_at]
  refine Z3r ?_
  refine Z3k ?_; intro bx4
  refine Z4a ?_
  refine Zg ?_
  refine Z5u ?_
  refine Z8l ?_
  refine Zl ?_
  refine oi (os_call cb_31 rfl (fun w s => Place_calls _ _ _  s )) ?_; rintro _ _ ⟨rfl, rfl⟩; rw [hpc]
  refine Z3s ?_
  refine cd_cond rfl (fun hb3 => ?_) (fun hb3 => ?_)
  ·have hp3 := hb3
   (try simp only [bn] at hp3)
   have hbe : belI t.nodes a (i : Int) = true := by
    cases hq : belI t.nodes a (i : Int)
    ·rw [hq] at hp3; simp at hp3
    rfl
   have hadd : TreeS.add ⟨prN t.nodes a i, t.most⟩ ((t.nodes[i]?).getD nodeNo).root ((t.nodes[j]?).getD nodeNo).root (slA t.nodes i) = (0, ⟨prN t.nodes a (i + 1), t.most⟩) := prT_add hw hai hi1 hpj hbe
   refine Z6a ?_
   refine Z5u ?_
   refine oq (op_lda (L := rootC _) 3 ag_24 rfl rfl (nodeC_af0 _) (by simp [nodeC_len])) ?_
   refine Z5u ?_
   refine oq (op_lda (L := rootC _) 1 ag_24 rfl rfl (nodeC_af0 _) (by simp [nodeC_len])) ?_
   refine oq (op_field fld_51_1 rfl) ?_
   refine oq (op_ld 3 sc_3 rfl rfl (show (nodeC _).toArray[32]? = some (.int .i64 (slA t.nodes i)) from nodeC_a32 _)) ?_
   refine oi (os_call cb_47 rfl (fun w s => Add_calls _ _ _ _ _  s )) ?_; rintro _ _ ⟨rfl, rfl⟩; rw [hadd]; (try dsimp only)
   refine ol_nil ?_
   refine Z6n ?_
   refine px_loop2 (i + 1) ⟨by omega, by omega⟩ (by (try dsimp only); omega) ⟨congrArg (Value.int .i64) (by simp), trivial⟩ ?_ (fun _ s => (by (try dsimp only); exact ((s.del 3).del 1)))
   exact Z2
  have hp3 := hb3
  (try simp only [bn] at hp3)
  have hbe : ¬ belI t.nodes a (i : Int) = true := fun hq => by rw [if_pos hq] at hp3; omega
  refine cd_skip ?_
  refine Z6n ?_
  refine px_loop2 (i + 1) ⟨by omega, by omega⟩ (by (try dsimp only); omega) ⟨congrArg (Value.int .i64) (by simp), trivial⟩ ?_ (fun _ s => (by (try dsimp only); rw [prN_succ, if_neg hbe]; exact ((s.del 3).del 1)))
  exact Z2
 have hp2 := hb2
 (try simp only [bn] at hp2)
 have hie : i = t.nodes.length := by omega
 refine Z1e ?_
 refine Zg ?_
 refine Zc ?_
 refine Zp ?_
 rw [hie]
 exact px_ret2 rfl (v1 := .pointer _) (v2 := .int _ 0) (l' := TreeObj _ (prT t a) :: TreeObj p t :: l) rfl rfl (fun _ s => (((s.del 3).del 2).pull 1)) ⟨_, rfl, rfl⟩
end Go.SL

set_option linter.unusedVariables false
set_option linter.unusedSimpArgs false
namespace Go.SL
open Go.Proofs

/-- the reference's tree: all that it owns -/
def RTreeObj (p : Nat) (t : TreeS) : HProp := ex fun x : (Option Addr × Nat × Option Addr × Nat × Option Addr × Nat) × (List Root × List Int × List Root) =>
 match x with | ((a1, c1, a2, c2, a3, c3), (R, Sl, Pa)) => stars (pr (t.WF ∧ RTreeOf t R Sl Pa) :: Blk p (.cells #[.slice a1 R.length c1, .slice a2 Sl.length c2, .slice a3 Pa.length c3, .int .i64 t.most] 44 (0, 0)) :: Row 24 encRoot (.slice a1 R.length c1) R :: Row 3 encI64 (.slice a2 Sl.length c2) Sl :: Row 24 encRoot (.slice a3 Pa.length c3) Pa :: [])
theorem Sat.rtreeOpen {w0 w : World} {l : List HProp} {p : Nat} {t : TreeS} (s : Sat w0 w (RTreeObj p t :: l)) : ∃ a1 c1 a2 c2 a3 c3 R Sl Pa, t.WF ∧ RTreeOf t R Sl Pa ∧ Sat w0 w (Blk p (.cells #[.slice a1 R.length c1, .slice a2 Sl.length c2, .slice a3 Pa.length c3, .int .i64 t.most] 44 (0, 0)) :: Row 24 encRoot (.slice a1 R.length c1) R :: Row 3 encI64 (.slice a2 Sl.length c2) Sl :: Row 24 encRoot (.slice a3 Pa.length c3) Pa :: l) := by
 obtain ⟨⟨⟨a1, c1, a2, c2, a3, c3⟩, ⟨R, Sl, Pa⟩⟩, s⟩ := Sat.ex_iff.1 s
 have s1 := Sat.stars_iff.1 s
 obtain ⟨hw, s2⟩ := Sat.pr_iff.1 s1
 exact ⟨a1, c1, a2, c2, a3, c3, R, Sl, Pa, hw.1, hw.2, s2⟩
theorem Sat.rtreeMk {w0 w : World} {l : List HProp} {p : Nat} {t : TreeS} {a1 a2 a3 : Option Addr} {c1 c2 c3 m1 m2 m3 : Nat} {R : List Root} {Sl : List Int} {Pa : List Root} (hw : t.WF) (hr : RTreeOf t R Sl Pa) (h1 : m1 = R.length) (h2 : m2 = Sl.length) (h3 : m3 = Pa.length)
  (s : Sat w0 w (Blk p (.cells #[.slice a1 m1 c1, .slice a2 m2 c2, .slice a3 m3 c3, .int .i64 t.most] 44 (0, 0)) :: Row 24 encRoot (.slice a1 m1 c1) R :: Row 3 encI64 (.slice a2 m2 c2) Sl :: Row 24 encRoot (.slice a3 m3 c3) Pa :: l)) : Sat w0 w (RTreeObj p t :: l) := by
 subst h1 h2 h3
 exact Sat.ex_iff.2 ⟨((a1, c1, a2, c2, a3, c3), (R, Sl, Pa)), Sat.stars_iff.2 (Sat.pr_iff.2 ⟨⟨hw, hr⟩, s⟩)⟩
set_option maxRecDepth 100000 in
set_option maxHeartbeats 1000000 in
theorem RTNew_calls {w0 w : World} {l : List HProp} (r : Root) (slot most : Int) (hs : Sat w0 w (l))  :
  Calls Try.prog 46 #[.agg (rootC r).toArray, .int .i64 slot, .int .i64 most] w (Ret w0 fun v l' => (v = .tuple #[.pointer none, .bool false] ∧ l' = l ∧ (most < 1 ∨ 256 < most ∨ slot < 0 ∨ 1073741824 < slot)) ∨ ∃ p, v = .tuple #[.pointer (some ⟨p, 0, none⟩), .bool true] ∧ (1 ≤ most ∧ most ≤ 256 ∧ 0 ≤ slot ∧ slot ≤ 1073741824) ∧ l' = RTreeObj p (TreeS.new r slot most) :: l) := by
 refine calls_enter Try.func46 rfl rfl rfl hs ?_
 refine Zj ?_; intro bx1
 refine Z4u ?_
 refine Zf ?_
 refine Z4y ?_
 refine Z5 ?_
 refine ol_split 10 rfl (fun hb1 => ?_) (fun hb1 => ?_)
 ·have hp1 := hb1
  (try simp only [bn] at hp1)
  refine Z69 ?_
  refine Z20 ?_
  refine Z3h ?_
  refine Z3h ?_
  refine Z3p ?_
  refine Zv ?_
  exact Z9n
 have hp1 := hb1
 (try simp only [bn] at hp1)
 refine Z2q ?_
 refine Z8f ?_
 refine Z21 ?_
 refine Z5 ?_
 refine ol_split 14 rfl (fun hb2 => ?_) (fun hb2 => ?_)
 ·have hp2 := hb2
  (try simp only [bn] at hp2)
  refine Z1g ?_
  refine Z37 ?_
  refine Z3h ?_
  refine Z3p ?_
  refine Zv ?_
  exact Z9n
 have hp2 := hb2
 (try simp only [bn] at hp2)
 refine Z4i ?_
 refine Z8g ?_
 refine Z2v ?_
 refine Z5 ?_
 refine ol_split 18 rfl (fun hb3 => ?_) (fun hb3 => ?_)
 ·have hp3 := hb3
  (try simp only [bn] at hp3)
  refine Z2p ?_
  refine Z4j ?_
  refine Z3p ?_
  refine Zv ?_
  exact Z9n
 have hp3 := hb3
 (try simp only [bn] at hp3)
 refine Z5f ?_
 refine Z5t ?_
 refine Z5g ?_
 refine Z1 ?_
 refine cd_cond rfl (fun hb4 => ?_) (fun hb4 => ?_)
 ·have hp4 := hb4
  (try simp only [bn] at hp4)
  refine Z31 ?_
  refine Zv ?_
  exact Z9n
 have hp4 := hb4
 (try simp only [bn] at hp4)
 refine Za ?_
 refine Z0 ?_
 refine Z2k ?_
 refine oi (os_bslice (E := encRoot) [_] (ys := [_]) sB_37 zv_24 rfl rfl rfl rfl (by decide)) ?_; rintro _ _ ⟨ao1, rfl, rfl⟩
 refine Z4 ?_
 refine Z9o ?_; intro ao2
 refine oq (op_buildr rfl rB_24 zBr_24) ?_
 refine oi (os_bslice (E := encRoot) [_] (ys := [_]) sB_37 zv_24 rfl rfl rfl rfl (by decide)) ?_; rintro _ _ ⟨ao3, rfl, rfl⟩
 refine Z4 ?_
 refine oq (op_build (L := [_, _, _, _]) (vs := [(0, .slice _ _ _), (1, .slice _ _ _), (2, .slice _ _ _), (3, .int _ _)]) bB_44 rfl ⟨⟨rfl, rfl⟩, ⟨rfl, rfl⟩, ⟨rfl, rfl⟩, ⟨rfl, rfl⟩, trivial⟩ rfl) ?_
 refine Z2f ?_; intro bx2
 refine Zc ?_
 refine Zk ?_
 exact px_ret2 rfl (v1 := .pointer _) (v2 := .bool _) (l' := RTreeObj _ (TreeS.new r slot most) :: l) rfl rfl (fun _ s => Sat.rtreeMk (t := TreeS.new r slot most) (TreeS.WF.new (by omega) (by omega) (by omega) (by omega)) ⟨rfl, rfl, rfl⟩ rfl rfl rfl (((((s.del 4).pull 1).pull 2).pull 3).pull 3)) (.inr ⟨_, rfl, by omega, rfl⟩)

set_option maxRecDepth 100000 in
set_option maxHeartbeats 1000000 in
theorem RPlaceO_calls {w0 w : World} {l : List HProp} (p : Nat) (a1 : Option Addr) (c1 : Nat) (R : List Root) (x2 x3 x4 : Value) (r : Root) (hs : Sat w0 w ((Blk p (.cells #[.slice a1 R.length c1, x2, x3, x4] 44 (0, 0))) :: (Row 24 encRoot (.slice a1 R.length c1) R) :: l))  :
  Calls Try.prog 49 #[.pointer (some ⟨p, 0, none⟩), .agg (rootC r).toArray] w (Ret w0 fun v l' => v = .int .i64 (rplace R r) ∧ l' = Blk p (.cells #[.slice a1 R.length c1, x2, x3, x4] 44 (0, 0)) :: Row 24 encRoot (.slice a1 R.length c1) R :: l) := by
 have hRm := (hs.pull 1).rowMax; unfold maxLen at hRm
 refine calls_enter Try.func49 rfl rfl rfl hs ?_
 refine Z3z ?_; intro bx1
 refine Z9a ?_
 refine oq (op_ld 1 sc_37 rfl rfl rfl) ?_
 refine oq (op_len_slice Try.underlying37 rfl) ?_
 refine Z1l ?_
 refine Zbo ?_
 rintro i ⟨hi, hno⟩ f; (try dsimp only at hi hno ⊢)
 refine Zx ?_
 refine cd_cond rfl (fun hb1 => ?_) (fun hb1 => ?_)
 ·have hp1 := hb1
  (try simp only [bn] at hp1)
  refine Z2t ?_
  refine Zdb ?_
  refine Z1w ?_; intro bx2
  refine Zq ?_
  refine Z4h ?_
  refine Z19 ?_
  refine Z2k ?_
  refine Z8o ?_
  refine oq (op_eqroot _ _ rB_24 rfl rfl) ?_
  refine Z1 ?_
  refine cd_cond rfl (fun hb2 => ?_) (fun hb2 => ?_)
  ·have hp2 := hb2
   (try simp only [bn] at hp2)
   have hrr := of_decide_eq_true hb2
   refine Z3b ?_
   refine Z1z ?_
   have e : rplace R r = i := by unfold rplace; rw [ridx_first (by omega) hrr hno]
   exact px_ret1 rfl (v := .int _ _) rfl (fun _ s => ((s.del 1).del 0)) ⟨congrArg (Value.int .i64) e.symm, rfl⟩
  have hp2 := hb2
  (try simp only [bn] at hp2)
  have hnr := of_decide_eq_false hb2
  refine Z34 ?_
  refine px_loop2 (i + 1) ⟨by omega, fun j h h2 => by rcases Nat.lt_succ_iff_lt_or_eq.1 h2 with h3 | h3; exact hno j h h3; subst h3; exact hnr⟩ (by (try dsimp only); omega) ⟨congrArg (Value.int .i64) (by simp), trivial⟩ ?_ (fun _ s => (s.del 0))
  exact Z2
 have hp1 := hb1
 (try simp only [bn] at hp1)
 refine Z1e ?_
 refine Z1c ?_
 have e : rplace R r = -1 := by unfold rplace; rw [ridx_no fun j hj => hno j hj (by omega)]
 exact px_ret1 rfl (v := .int _ _) rfl (fun _ s => (s.del 0)) ⟨congrArg (Value.int .i64) e.symm, rfl⟩

set_option maxRecDepth 100000 in
set_option maxHeartbeats 1000000 in
theorem RPlace_calls {w0 w : World} {l : List HProp} (p : Nat) (t : TreeS) (r : Root) (hs : Sat w0 w ((RTreeObj p t) :: l))  :
  Calls Try.prog 49 #[.pointer (some ⟨p, 0, none⟩), .agg (rootC r).toArray] w (Ret w0 fun v l' => v = .int .i64 (t.place r) ∧ l' = RTreeObj p t :: l) := by
 obtain ⟨a1, c1, a2, c2, a3, c3, R, Sl, Pa, hw, hR, hs⟩ := hs.rtreeOpen
 have hm1 := hw.m1; have hm2 := hw.m2; have hle := hw.le; have hne := hw.ne
 have hRl : R.length = t.nodes.length := by rw [hR.r, List.length_map]
 have hSl : Sl.length = t.nodes.length := by rw [hR.s, List.length_map]
 have hPl : Pa.length = t.nodes.length := by rw [hR.p]; unfold parR; rw [List.length_map]
 refine calls_enter Try.func49 rfl rfl rfl hs ?_
 refine Z3z ?_; intro bx1
 refine Z9a ?_
 refine oq (op_ld 1 sc_37 rfl rfl rfl) ?_
 refine oq (op_len_slice Try.underlying37 rfl) ?_
 refine Z1l ?_
 refine Zbo ?_
 rintro i ⟨hi, hno⟩ f; (try dsimp only at hi hno ⊢)
 refine Zx ?_
 refine cd_cond rfl (fun hb1 => ?_) (fun hb1 => ?_)
 ·have hp1 := hb1
  (try simp only [bn] at hp1)
  refine Z2t ?_
  refine Zdb ?_
  refine Z1w ?_; intro bx2
  refine Zq ?_
  refine Z4h ?_
  refine Z19 ?_
  refine Z2k ?_
  refine Z8o ?_
  refine oq (op_eqroot _ _ rB_24 rfl rfl) ?_
  refine Z1 ?_
  refine cd_cond rfl (fun hb2 => ?_) (fun hb2 => ?_)
  ·have hp2 := hb2
   (try simp only [bn] at hp2)
   have hrr := of_decide_eq_true hb2
   refine Z3b ?_
   refine Z1z ?_
   have e : rplace R r = i := by unfold rplace; rw [ridx_first (by omega) hrr hno]
   rw [hR.r, rplace_map] at e
   exact px_ret1 rfl (v := .int _ _) (l' := RTreeObj p t :: l) rfl (fun _ s => Sat.rtreeMk (t := t) hw hR (by simp) (by simp) (by simp) ((s.del 1).del 0)) ⟨congrArg (Value.int .i64) e.symm, rfl⟩
  have hp2 := hb2
  (try simp only [bn] at hp2)
  have hnr := of_decide_eq_false hb2
  refine Z34 ?_
  refine px_loop2 (i + 1) ⟨by omega, fun j h h2 => by rcases Nat.lt_succ_iff_lt_or_eq.1 h2 with h3 | h3; exact hno j h h3; subst h3; exact hnr⟩ (by (try dsimp only); omega) ⟨congrArg (Value.int .i64) (by simp), trivial⟩ ?_ (fun _ s => (s.del 0))
  exact Z2
 have hp1 := hb1
 (try simp only [bn] at hp1)
 refine Z1e ?_
 refine Z1c ?_
 have e : rplace R r = -1 := by unfold rplace; rw [ridx_no fun j hj => hno j hj (by omega)]
 rw [hR.r, rplace_map] at e
 exact px_ret1 rfl (v := .int _ _) (l' := RTreeObj p t :: l) rfl (fun _ s => Sat.rtreeMk (t := t) hw hR (by simp) (by simp) (by simp) (s.del 0)) ⟨congrArg (Value.int .i64) e.symm, rfl⟩

set_option maxRecDepth 100000 in
set_option maxHeartbeats 1000000 in
theorem RUpO_calls {w0 w : World} {l : List HProp} (p : Nat) (t : TreeS) (a1 a2 a3 : Option Addr) (c1 c2 c3 : Nat) (R : List Root) (Sl : List Int) (Pa : List Root) (i : Int) (hs : Sat w0 w ((Blk p (.cells #[.slice a1 R.length c1, .slice a2 Sl.length c2, .slice a3 Pa.length c3, .int .i64 t.most] 44 (0, 0))) :: (Row 24 encRoot (.slice a1 R.length c1) R) :: (Row 3 encI64 (.slice a2 Sl.length c2) Sl) :: (Row 24 encRoot (.slice a3 Pa.length c3) Pa) :: l)) (hw : t.WF) (hR : RTreeOf t R Sl Pa) :
  Calls Try.prog 25 #[.pointer (some ⟨p, 0, none⟩), .int .i64 i] w (Ret w0 fun v l' => v = .int .i64 (t.up i) ∧ l' = Blk p (.cells #[.slice a1 R.length c1, .slice a2 Sl.length c2, .slice a3 Pa.length c3, .int .i64 t.most] 44 (0, 0)) :: Row 24 encRoot (.slice a1 R.length c1) R :: Row 3 encI64 (.slice a2 Sl.length c2) Sl :: Row 24 encRoot (.slice a3 Pa.length c3) Pa :: l) := by
 have hRl : R.length = t.nodes.length := by rw [hR.r, List.length_map]
 have hPl : Pa.length = t.nodes.length := by rw [hR.p]; unfold parR; rw [List.length_map]
 refine calls_enter Try.func25 rfl rfl rfl hs ?_
 refine Z0 ?_
 refine Z8 ?_
 refine Zf ?_
 refine oq (op_le rfl rfl) ?_
 refine Z5 ?_
 refine ol_split 7 rfl (fun hb1 => ?_) (fun hb1 => ?_)
 ·have hp1 := hb1
  (try simp only [bn] at hp1)
  refine Z3o ?_
  refine Z4t ?_
  refine Z20 ?_
  refine Z3w ?_
  have e : t.up i = -1 := TreeS.up_out hw (by omega)
  exact Zas
 have hp1 := hb1
 (try simp only [bn] at hp1)
 refine Z2q ?_
 refine Z50 ?_
 refine Z51 ?_
 refine ol_q (wn_some rfl rfl rfl hb1 rfl) (op_field fld_44_0 rfl) rfl ?_
 refine ol_q (wn_some rfl rfl rfl hb1 rfl) (op_ld 0 sc_37 rfl rfl rfl) rfl ?_
 refine ol_q (wn_some rfl rfl rfl hb1 rfl) (op_len_slice Try.underlying37 rfl) rfl ?_
 refine ol_q (wn_some rfl rfl rfl hb1 rfl) (op_ge rfl rfl) rfl ?_
 refine Z21 ?_
 refine Z1 ?_
 refine cd_cond rfl (fun hb2 => ?_) (fun hb2 => ?_)
 ·have hp2 := hb2
  (try simp only [bn] at hp2)
  refine Z1y ?_
  have e : t.up i = -1 := TreeS.up_out hw (by omega)
  exact Zas
 have hp2 := hb2
 (try simp only [bn] at hp2)
 obtain ⟨i0, rfl⟩ : ∃ i0 : Nat, i = i0 := ⟨i.toNat, by omega⟩
 refine Za ?_
 refine Z3i ?_
 refine Z9b ?_
 refine oq (op_ld 0 sc_37 rfl rfl rfl) ?_
 refine Z4 ?_
 refine oq (op_index i0 sB_37 rfl rfl rfl (rds_row 3 rfl rfl) rfl (by omega)) ?_
 refine oq (op_ldaw (L := rootC _) ag_24 (rds_row 3 rfl rfl) rfl (by omega) rfl (rootC_ta _)) ?_
 refine Z9 ?_
 refine Z9 ?_
 refine oi (os_call cb_49 rfl (fun w s => RPlaceO_calls _ _ _ _ _ _ _ _  s )) ?_; rintro _ _ ⟨rfl, rfl⟩
 refine Zp ?_
 have e : t.up (i0 : Int) = rplace R Pa[i0] := by simp only [hR.r, hR.p]; exact (up_eq hw (by omega) (by omega) (by unfold parR; rw [List.length_map]; omega)).symm
 exact Zas

set_option maxRecDepth 100000 in
set_option maxHeartbeats 1000000 in
theorem RAdd_calls {w0 w : World} {l : List HProp} (p : Nat) (t : TreeS) (r q : Root) (slot : Int) (hs : Sat w0 w ((RTreeObj p t) :: l))  :
  Calls Try.prog 48 #[.pointer (some ⟨p, 0, none⟩), .agg (rootC r).toArray, .agg (rootC q).toArray, .int .i64 slot] w (Ret w0 fun v l' => v = .int .i64 (t.add r q slot).1 ∧ l' = RTreeObj p (t.add r q slot).2 :: l) := by
 obtain ⟨a1, c1, a2, c2, a3, c3, R, Sl, Pa, hw, hR, hs⟩ := hs.rtreeOpen
 have hm1 := hw.m1; have hm2 := hw.m2; have hle := hw.le; have hne := hw.ne
 have hRl : R.length = t.nodes.length := by rw [hR.r, List.length_map]
 have hSl : Sl.length = t.nodes.length := by rw [hR.s, List.length_map]
 have hPl : Pa.length = t.nodes.length := by rw [hR.p]; unfold parR; rw [List.length_map]
 have hp1 : rplace R r = t.place r := by rw [hR.r, rplace_map]
 have hp2 : rplace R q = t.place q := by rw [hR.r, rplace_map]
 refine calls_enter Try.func48 rfl rfl rfl hs ?_
 refine Zj ?_; intro bx1
 refine Z2f ?_; intro bx2
 refine Z5a ?_
 refine Z8o ?_
 refine Zl ?_
 refine Zl ?_
 refine oi (os_call cb_49 rfl (fun w s => RPlaceO_calls _ _ _ _ _ _ _ _  s )) ?_; rintro _ _ ⟨rfl, rfl⟩; simp only [hp1]
 refine Z3s ?_
 refine cd_cond rfl (fun hb1 => ?_) (fun hb1 => ?_)
 ·have hp1 := hb1
  (try simp only [bn] at hp1)
  have hr1 : (idxOf t.nodes r).isSome = true := TreeS.place_iff.1 (of_decide_eq_true hb1)
  refine Z1y ?_
  have e : t.add r q slot = (4, t) := by unfold TreeS.add; rw [if_pos hr1]
  rw [e]
  exact Z8p
 have hp1 := hb1
 (try simp only [bn] at hp1)
 have hr1 : ¬ (idxOf t.nodes r).isSome = true := fun h => absurd (TreeS.place_iff.2 h) (of_decide_eq_false hb1)
 refine Za ?_
 refine Zg ?_
 refine oq (op_lda (L := rootC _) 2 ag_24 rfl rfl (rootC_take' _) (by simp [rootC_len])) ?_
 refine Z9 ?_
 refine Z9 ?_
 refine oi (os_call cb_49 rfl (fun w s => RPlaceO_calls _ _ _ _ _ _ _ _  s )) ?_; rintro _ _ ⟨rfl, rfl⟩; simp only [hp2]
 refine Z8 ?_
 refine Zf ?_
 refine Z4y ?_
 refine Z5 ?_
 refine ol_split 19 rfl (fun hb2 => ?_) (fun hb2 => ?_)
 ·have hp2 := hb2
  (try simp only [bn] at hp2)
  have hq0 := TreeS.place_none (of_decide_eq_true hb2)
  have hcase : (match idxOf t.nodes q with | none => (5, t) | some j => if slot ≤ ((t.nodes[j]?).getD nodeNo).slot ∨ 1073741824 < slot then (5, t) else if t.most ≤ t.nodes.length then (6, t) else (0, { t with nodes := t.nodes ++ [⟨r, slot, (j : Int)⟩] })) = ((5 : Int), t) := by rw [hq0]
  refine Z1g ?_
  refine Z1g ?_
  refine Z1g ?_
  refine Z1g ?_
  refine Z5s ?_
  refine Z37 ?_
  refine Z3h ?_
  refine Z3w ?_
  have e : t.add r q slot = (5, t) := by unfold TreeS.add; rw [if_neg hr1]; exact hcase
  rw [e]
  exact Z8p
 have hp2 := hb2
 (try simp only [bn] at hp2)
 obtain ⟨j, hqj, hpj⟩ := TreeS.place_some (t := t) (r := q) (by omega)
 obtain ⟨m0, hm0, hmq⟩ := idxOf_some hqj
 have hjl := idxOf_lt hqj
 have hgs : Sl[j] = m0.slot := by simp only [hR.s, List.getElem_map]; rw [(List.getElem_eq_iff (by omega)).2 hm0]
 refine ol_q (wn_some rfl rfl rfl hb2 rfl) (op_move (v := .pointer _) rfl) rfl ?_
 refine ol_q (wn_some rfl rfl rfl hb2 rfl) (op_nilck rfl) rfl ?_
 refine ol_q (wn_some rfl rfl rfl hb2 rfl) (op_field fld_44_1 rfl) rfl ?_
 refine ol_q (wn_some rfl rfl rfl hb2 rfl) (op_ld 0 sc_42 rfl rfl rfl) rfl ?_
 refine Z4i ?_
 refine ol_q (wn_some rfl rfl rfl hb2 rfl) (op_index j sB_42 rfl rfl hpj (rds_row 4 rfl rfl) rfl (by omega)) rfl ?_
 refine ol_q (wn_some rfl rfl rfl hb2 rfl) (op_ldw sc_3 (rds_row 4 rfl rfl) rfl (by omega) rfl) rfl ?_
 refine Z4i ?_
 refine ol_q (wn_some rfl rfl rfl hb2 rfl) (op_ge rfl rfl) rfl ?_
 refine Z2v ?_
 refine Z5 ?_
 refine ol_split 30 rfl (fun hb3 => ?_) (fun hb3 => ?_)
 ·have hp3 := hb3
  (try simp only [bn] at hp3)
  have hcase : (match idxOf t.nodes q with | none => (5, t) | some j => if slot ≤ ((t.nodes[j]?).getD nodeNo).slot ∨ 1073741824 < slot then (5, t) else if t.most ≤ t.nodes.length then (6, t) else (0, { t with nodes := t.nodes ++ [⟨r, slot, (j : Int)⟩] })) = ((5 : Int), t) := by rw [hqj]; simp only [hm0, Option.getD_some]; rw [if_pos (.inl (by rw [← hgs]; exact of_decide_eq_true hb3))]
  refine Z2p ?_
  refine Z4j ?_
  refine Z3w ?_
  have e : t.add r q slot = (5, t) := by unfold TreeS.add; rw [if_neg hr1]; exact hcase
  rw [e]
  exact Z8p
 have hp3 := hb3
 (try simp only [bn] at hp3)
 refine Z5f ?_
 refine Z5t ?_
 refine Z5g ?_
 refine Z1 ?_
 refine cd_cond rfl (fun hb4 => ?_) (fun hb4 => ?_)
 ·have hp4 := hb4
  (try simp only [bn] at hp4)
  have hcase : (match idxOf t.nodes q with | none => (5, t) | some j => if slot ≤ ((t.nodes[j]?).getD nodeNo).slot ∨ 1073741824 < slot then (5, t) else if t.most ≤ t.nodes.length then (6, t) else (0, { t with nodes := t.nodes ++ [⟨r, slot, (j : Int)⟩] })) = ((5 : Int), t) := by rw [hqj]; simp only [hm0, Option.getD_some]; rw [if_pos (.inr (of_decide_eq_true hb4))]
  refine Z1y ?_
  have e : t.add r q slot = (5, t) := by unfold TreeS.add; rw [if_neg hr1]; exact hcase
  rw [e]
  exact Z8p
 have hp4 := hb4
 (try simp only [bn] at hp4)
 have hsl : ¬ (slot ≤ m0.slot ∨ 1073741824 < slot) := by rw [← hgs]; omega
 refine Zn ?_
 refine Z1u ?_
 refine Z6 ?_
 refine Z71 ?_
 refine Z72 ?_
 refine rg_q (wn_none rfl) (op_len_slice Try.underlying37 rfl) rfl rfl ?_
 refine Z6 ?_
 refine rg_q (wn_none rfl) (op_field fld_44_3 rfl) rfl rfl ?_
 refine Z8i ?_
 refine rg_q (wn_none rfl) (op_ge rfl rfl) rfl rfl ?_
 refine Z1a ?_
 refine cd_cond rfl (fun hb5 => ?_) (fun hb5 => ?_)
 ·have hp5 := hb5
  (try simp only [bn] at hp5)
  refine Z1y ?_
  have e : t.add r q slot = (6, t) := by unfold TreeS.add; rw [if_neg hr1, hqj]; simp only [hm0, Option.getD_some]; rw [if_neg hsl, if_pos (by omega)]
  rw [e]
  exact Z8p
 have hp5 := hb5
 (try simp only [bn] at hp5)
 refine Za ?_
 refine cd_pull1 ?_
 refine Z7 ?_
 refine Z8q ?_
 dsimp only [List.take_succ_cons, List.take_zero, List.drop_succ_cons, List.drop_zero]
 refine Zd ?_
 refine Z6 ?_
 refine Z71 ?_
 refine Z72 ?_
 refine rg_q (wn_none rfl) (op_lda (L := rootC _) 2 ag_24 rfl rfl (rootC_take' _) (by simp [rootC_len])) rfl rfl ?_
 refine Z8r ?_; intro ao1
 refine Zbp ?_; intro ao2 ac2
 refine rg_tail2 ?_
 refine Z9a ?_
 refine Zs ?_
 refine Z8s ?_
 refine Z1 ?_
 refine Z3i ?_
 refine Zr ?_
 refine oq (op_field fld_44_1 rfl) ?_
 refine oq (op_ld 0 sc_42 rfl rfl rfl) ?_
 refine Z4 ?_
 refine Z9o ?_; intro ao3
 refine Z25 ?_
 refine oi (os_append (E := encI64) rfl sB_42 zv_3 rfl rfl rfl (fun w s => (rds_row 1 rfl rfl) [] w s) rfl (by simp; omega) (by unfold maxLen; simp; omega)) ?_; rintro _ _ ⟨ao4, ac4, rfl, rfl⟩
 refine Zr ?_
 refine oq (op_field fld_44_1 rfl) ?_
 refine Zs ?_
 refine Zap ?_
 refine Z1 ?_
 refine cd_pull7 ?_
 refine Z7 ?_
 refine Z8q ?_
 dsimp only [List.take_succ_cons, List.take_zero, List.drop_succ_cons, List.drop_zero]
 refine Zd ?_
 refine Z6 ?_
 refine rg_q (wn_none rfl) (op_field fld_44_2 rfl) rfl rfl ?_
 refine Z72 ?_
 refine rg_q (wn_none rfl) (op_lda (L := rootC _) 5 ag_24 rfl rfl (rootC_take' _) (by simp [rootC_len])) rfl rfl ?_
 refine Z8r ?_; intro ao5
 refine Zbp ?_; intro ao6 ac6
 refine rg_tail2 ?_
 refine Z9b ?_
 refine Zs ?_
 refine Z8s ?_
 refine Z1 ?_
 refine Z1c ?_
 have hadd : t.add r q slot = (0, { t with nodes := t.nodes ++ [⟨r, slot, (j : Int)⟩] }) := by unfold TreeS.add; rw [if_neg hr1, hqj]; simp only [hm0, Option.getD_some]; rw [if_neg hsl, if_neg (by omega)]
 have hwf2 := hw.add r q slot
 rw [hadd] at hwf2 ⊢
 exact px_ret1 rfl (v := .int _ _) (l' := RTreeObj p { t with nodes := t.nodes ++ [⟨r, slot, (j : Int)⟩] } :: l) rfl (fun _ s => Sat.rtreeMk (t := { t with nodes := t.nodes ++ [⟨r, slot, (j : Int)⟩] }) hwf2 ⟨by rw [hR.r, List.map_append]; rfl, by rw [hR.s, List.map_append]; rfl, by rw [hR.p, parR_append (m := m0) hw.pa hm0 rfl, hmq]⟩ (by simp) (by simp) (by simp) (((((((((s.del 8).del 7).del 6).del 4).del 2).pull 1).pull 2).pull 3).pull 3)) ⟨rfl, rfl⟩

set_option maxRecDepth 100000 in
set_option maxHeartbeats 1000000 in
theorem RBelowO_calls {w0 w : World} {l : List HProp} (p : Nat) (t : TreeS) (a1 a2 a3 : Option Addr) (c1 c2 c3 : Nat) (R : List Root) (Sl : List Int) (Pa : List Root) (o r : Root) (hs : Sat w0 w ((Blk p (.cells #[.slice a1 R.length c1, .slice a2 Sl.length c2, .slice a3 Pa.length c3, .int .i64 t.most] 44 (0, 0))) :: (Row 24 encRoot (.slice a1 R.length c1) R) :: (Row 3 encI64 (.slice a2 Sl.length c2) Sl) :: (Row 24 encRoot (.slice a3 Pa.length c3) Pa) :: l)) (hw : t.WF) (hR : RTreeOf t R Sl Pa) :
  Calls Try.prog 54 #[.pointer (some ⟨p, 0, none⟩), .agg (rootC o).toArray, .agg (rootC r).toArray] w (Ret w0 fun v l' => v = .bool (t.below o r) ∧ l' = Blk p (.cells #[.slice a1 R.length c1, .slice a2 Sl.length c2, .slice a3 Pa.length c3, .int .i64 t.most] 44 (0, 0)) :: Row 24 encRoot (.slice a1 R.length c1) R :: Row 3 encI64 (.slice a2 Sl.length c2) Sl :: Row 24 encRoot (.slice a3 Pa.length c3) Pa :: l) := by
 have hle := hw.le; have hm2 := hw.m2; have hRl : R.length = t.nodes.length := by rw [hR.r, List.length_map]
 have hPl : Pa.length = t.nodes.length := by rw [hR.p]; unfold parR; rw [List.length_map]
 have hp1 : rplace R o = t.place o := by rw [hR.r, rplace_map]
 have hp2 : rplace R r = t.place r := by rw [hR.r, rplace_map]
 have hbe := t.below_eq o r
 refine calls_enter Try.func54 rfl rfl rfl hs ?_
 refine Zj ?_; intro bx1
 refine Z2f ?_; intro bx2
 refine Zb ?_
 refine Z1q ?_
 refine Z8o ?_
 refine Zl ?_
 refine Zl ?_
 refine oi (os_call cb_49 rfl (fun w s => RPlaceO_calls _ _ _ _ _ _ _ _  s )) ?_; rintro _ _ ⟨rfl, rfl⟩; simp only [hp1]
 refine Z3u ?_
 refine cd_cond rfl (fun hb1 => ?_) (fun hb1 => ?_)
 ·have hp1 := hb1
  (try simp only [bn] at hp1)
  have ho0 := TreeS.place_none (of_decide_eq_true hb1)
  rw [ho0] at hbe
  refine Z0 ?_
  refine Zv ?_
  exact px_ret1 rfl (v := .bool _) rfl (fun _ s => ((s.del 3).del 2)) ⟨congrArg Value.bool hbe.symm, rfl⟩
 have hp1 := hb1
 (try simp only [bn] at hp1)
 obtain ⟨a0, ho0, hop⟩ := TreeS.place_some (t := t) (r := o) (by omega)
 rw [ho0] at hbe; dsimp only at hbe
 have hrl := t.place_lt r
 refine Za ?_
 refine Z1q ?_
 refine oq (op_lda (L := rootC _) 2 ag_24 rfl rfl (rootC_take' _) (by simp [rootC_len])) ?_
 refine Z9 ?_
 refine Z9 ?_
 refine oi (os_call cb_49 rfl (fun w s => RPlaceO_calls _ _ _ _ _ _ _ _  s )) ?_; rintro _ _ ⟨rfl, rfl⟩; simp only [hp2]
 refine Z3j ?_
 refine cd_loop2 (α := Int) [(6, 7), (15, 28)] (fun x => [(7, .int .i64 x)]) (fun _ => _) (fun x => -1 ≤ x ∧ x < t.nodes.length ∧ t.below o r = belI t.nodes a0 x) (fun x => (x + 1).toNat) (t.place r) ⟨by unfold TreeS.place; split <;> omega, hrl, hbe⟩ ⟨rfl, trivial⟩ (fun _ s => s) ?_
 rintro i ⟨hi1, hi2, hbe⟩ f; (try dsimp only at hi1 hi2 hbe ⊢)
 refine Zf ?_
 refine Z3s ?_
 refine cd_cond rfl (fun hb2 => ?_) (fun hb2 => ?_)
 ·have hp2 := hb2
  (try simp only [bn] at hp2)
  obtain ⟨i0, rfl⟩ : ∃ i0 : Nat, i = i0 := ⟨i.toNat, by omega⟩
  have hgi : t.nodes[i0]? = some t.nodes[i0] := List.getElem?_eq_getElem (by omega)
  have hRi : R[i0] = t.nodes[i0].root := by simp only [hR.r, List.getElem_map]
  have hra := root_at hw ho0 (i := i0) (by omega)
  refine Z3g ?_
  refine Z1u ?_
  refine Z6 ?_
  refine Z71 ?_
  refine Z72 ?_
  refine Ze ?_
  refine rg_q (wn_none rfl) (op_index i0 sB_37 rfl rfl rfl (rds_row 1 rfl rfl) rfl (by omega)) rfl rfl ?_
  refine rg_q (wn_none rfl) (op_ldaw (L := rootC _) ag_24 (rds_row 1 rfl rfl) rfl (by omega) rfl (rootC_ta _)) rfl rfl ?_
  refine rg_q (wn_none rfl) (op_lda (L := rootC _) 3 ag_24 rfl rfl (rootC_take' _) (by simp [rootC_len])) rfl rfl ?_
  refine rg_q (wn_none rfl) (op_eqroot _ _ rB_24 rfl rfl) rfl rfl ?_
  refine Z1a ?_
  refine cd_cond rfl (fun hb3 => ?_) (fun hb3 => ?_)
  ·have hp3 := hb3
   (try simp only [bn] at hp3)
   have hia : i0 = a0 := hra.1 (hRi ▸ of_decide_eq_true hb3)
   subst hia
   rw [belI_eq] at hbe
   refine Z0 ?_
   refine Zk ?_
   refine Z1z ?_
   exact px_ret1 rfl (v := .bool _) rfl (fun _ s => ((s.del 3).del 2)) ⟨congrArg Value.bool hbe.symm, rfl⟩
  have hp3 := hb3
  (try simp only [bn] at hp3)
  have hia : i0 ≠ a0 := fun h => (of_decide_eq_false hb3) (hRi.trans (hra.2 h))
  have hup := belI_up hw.pa hgi (a := a0) hia
  have hpr := hw.par_rg hgi
  have hupe : t.up (i0 : Int) = t.nodes[i0].parent := by unfold TreeS.up; rw [if_pos (by omega), Int.toNat_natCast, hgi]; rfl
  refine cd_skip ?_
  refine Zag ?_
  refine Z1p ?_
  refine Z4 ?_
  refine ol_pull5 ?_
  refine ol_pull5 ?_
  refine Zl ?_
  refine Zl ?_
  refine oi (os_call cb_25 rfl (fun w s => RUpO_calls _ _ _ _ _ _ _ _ _ _ _ _  s (by assumption) (by assumption))) ?_; rintro _ _ ⟨rfl, rfl⟩
  refine Z2s ?_
  refine px_loop2 (t.nodes[i0].parent) ⟨by omega, by omega, hbe.trans hup⟩ (by (try dsimp only); omega) ⟨congrArg (Value.int .i64) hupe, trivial⟩ ?_ (fun _ s => ((((((s.pull 3).pull 3).pull 5).pull 5).pull 5).pull 5))
  exact Z2
 have hp2 := hb2
 (try simp only [bn] at hp2)
 refine Z2d ?_
 refine Zk ?_
 exact px_ret1 rfl (v := .bool _) rfl (fun _ s => ((s.del 3).del 2)) ⟨congrArg Value.bool (hbe.trans (belI_neg (by omega))).symm, rfl⟩

end Go.SL

set_option linter.unusedVariables false
set_option linter.unusedSimpArgs false
namespace Go.SL
def FF : Option Nat → Fence
  | none => Fence.wide
  | some l => Fence.wide.inRound l
theorem FF_fn (ro : Option Nat) (f : FuncId) : (FF ro).fn f := by cases ro <;> trivial
theorem FF_depth (ro : Option Nat) : (FF ro).depth = none := by cases ro <;> rfl
theorem FF_calls {ro : Option Nat} {m : Nat} {P : Program} {k : FuncId} {args : Array Value} {w : World} {R : Ending → World → Prop} (h : Calls P k args w R) : CallsIn (FF ro) m P k args w R := by
  cases ro with
  | none => exact callsIn_wide.2 h
  | some l => exact CallsIn.inRound l (callsIn_wide.2 h)
section
variable (P : Program) (ro : Option Nat) (m : Nat) (w0 : World) (n : Nat)
def OLI (ops : Array Oper) (Q : Exit → Act → World → Prop) (rest : List Oper) (f : Fr) (l : List HProp) : Prop := ∀ a w, Rep n a f → Sat w0 w l → wpListIn (FF ro) m P ops Q rest a w
def CDI (c : Code) (Q : Exit → Act → World → Prop) (f : Fr) (l : List HProp) : Prop := ∀ a w, Rep n a f → Sat w0 w l → c.wpIn (FF ro) m P Q a w
end
section
variable {P : Program} {ro : Option Nat} {m : Nat} {w0 : World} {n : Nat} {Q : Exit → Act → World → Prop} {f : Fr} {l l' : List HProp} {ops : Array Oper} {rest : List Oper} {o : Oper}
theorem gives.wpIn {K : Value → World → Prop} {a : Act} {w : World} (hnd : ∀ c, o.op ≠ .defer c) (h : gives P K ((execOp a.eval o).run P w)) {K' : Act → World → Prop} (Q : Exit → Act → World → Prop) (hk : ∀ v w', K v w' → K' (a.put o.dst v) w') : o.wpIn (FF ro) m P a w K' Q := by
  refine ⟨fun f _ => FF_fn ro f, ?_⟩
  rw [Oper.semAt_eq _ _ _ hnd]
  generalize (execOp a.eval o).run P w = r at h
  cases r with
  | ok nx w1 =>
    cases nx <;> simp only [gives] at h
    case value v => exact hk _ _ h
    case skip => exact hk _ _ h
    case enter k args =>
      refine ⟨fun hd => (by rw [FF_depth] at hd; cases hd), ?_⟩
      exact (FF_calls h).mono fun e w ⟨v, he, hv⟩ => by subst he; exact hk _ _ hv
  | halt x w1 => exact h.elim
theorem oli_q0 {v : Value} (hw : Wn n ops o f true) (h : OP P w0 n o f l v) (hd : dok n o.dst = true) (k : OLI P ro m w0 n ops Q rest (updo f o.dst v) l) (hnd : ∀ c, o.op ≠ .defer c := by intro c h; cases h) : OLI P ro m w0 n ops Q (o :: rest) f l := fun a w r s => by
  unfold wpListIn
  rw [if_pos (hw a r)]
  exact gives.wpIn (K := fun u w' => u = v ∧ w' = w) hnd (by rw [h [] a w r s]; exact ⟨rfl, rfl⟩) Q fun u w' ⟨h1, h2⟩ => by subst h1 h2; exact k _ _ (r.puto hd u) s
theorem oli_i0 {R : Value → List HProp → Prop} (hw : Wn n ops o f true) (h : OS P w0 n o f l R) (hd : dok n o.dst = true) (k : ∀ v l', R v l' → OLI P ro m w0 n ops Q rest (updo f o.dst v) l') (hnd : ∀ c, o.op ≠ .defer c := by intro c h; cases h) : OLI P ro m w0 n ops Q (o :: rest) f l := fun a w r s => by
  unfold wpListIn
  rw [if_pos (hw a r)]
  exact gives.wpIn hnd (h a w r s) Q fun v w' ⟨l', hR, s'⟩ => k v l' hR _ _ (r.puto hd v) s'
section
variable {d : Nat} {op : Op} {ty : TypeId} {pos : String} {aft : Array Edge} {g : Option (Nat × Bool)}
theorem oli_q {v : Value} (hw : Wn n ops ⟨some d, op, ty, pos, aft, g⟩ f true) (h : OP P w0 n ⟨some d, op, ty, pos, aft, g⟩ f l v) (hd : Nat.ble (d + 1) n = true) (k : OLI P ro m w0 n ops Q rest (upd f d v) l) (hnd : ∀ c, op ≠ .defer c := by intro c h; cases h) : OLI P ro m w0 n ops Q (⟨some d, op, ty, pos, aft, g⟩ :: rest) f l := oli_q0 hw h hd k hnd
theorem oli_i {R : Value → List HProp → Prop} (hw : Wn n ops ⟨some d, op, ty, pos, aft, g⟩ f true) (h : OS P w0 n ⟨some d, op, ty, pos, aft, g⟩ f l R) (hd : Nat.ble (d + 1) n = true) (k : ∀ v l', R v l' → OLI P ro m w0 n ops Q rest (upd f d v) l') (hnd : ∀ c, op ≠ .defer c := by intro c h; cases h) : OLI P ro m w0 n ops Q (⟨some d, op, ty, pos, aft, g⟩ :: rest) f l := oli_i0 hw h hd k hnd
theorem oli_iN {R : Value → List HProp → Prop} (hw : Wn n ops ⟨none, op, ty, pos, aft, g⟩ f true) (h : OS P w0 n ⟨none, op, ty, pos, aft, g⟩ f l R) (k : ∀ v l', R v l' → OLI P ro m w0 n ops Q rest f l') (hnd : ∀ c, op ≠ .defer c := by intro c h; cases h) : OLI P ro m w0 n ops Q (⟨none, op, ty, pos, aft, g⟩ :: rest) f l := oli_i0 hw h rfl k hnd
end
theorem oli_nil (h : PX w0 n .normal Q f l) : OLI P ro m w0 n ops Q [] f l := h
theorem oli_nil_then {y : Code} (h : CDI P ro m w0 n y Q f l) : OLI P ro m w0 n ops (Exit.then (y.wpIn (FF ro) m P Q) Q) [] f l := h
theorem cdi_seq {x y : Code} (h : CDI P ro m w0 n x (Exit.then (y.wpIn (FF ro) m P Q) Q) f l) : CDI P ro m w0 n (.seq x y) Q f l := fun a w r s => wpIn_seq (h a w r s)
theorem cdi_region {id : Nat} {lo : List Oper} (h : OLI P ro m w0 n lo.toArray Q lo f l) : CDI P ro m w0 n (.region id lo.toArray false) Q f l := fun a w r s => wpIn_region_list (by simpa using h a w r s)
theorem cdi_sr {id : Nat} {lo : List Oper} {y : Code} (h : OLI P ro m w0 n lo.toArray (Exit.then (y.wpIn (FF ro) m P Q) Q) lo f l) : CDI P ro m w0 n (.seq (.region id lo.toArray false) y) Q f l := cdi_seq (cdi_region h)
theorem cdi_skip (h : PX w0 n .normal Q f l) : CDI P ro m w0 n .skip Q f l := fun a w r s => wpIn_skip (h a w r s)
theorem cdi_ret (h : PX w0 n .ret Q f l) : CDI P ro m w0 n .ret Q f l := fun a w r s => wpIn_ret (h a w r s)
theorem cdi_exit {id : Nat} (h : PX w0 n (.exit id) Q f l) : CDI P ro m w0 n (.exit id) Q f l := fun a w r s => wpIn_exit (h a w r s)
theorem cdi_block {id : Nat} {c : Code} (h : CDI P ro m w0 n c (Exit.inBlock id Q) f l) : CDI P ro m w0 n (.block id c) Q f l := fun a w r s => wpIn_block (h a w r s)
theorem cdi_cond {c : Operand} {x y : Code} {b : Bool} (hc : ev f c = .bool b) (ht : b = true → CDI P ro m w0 n x Q f l) (hf : b = false → CDI P ro m w0 n y Q f l) : CDI P ro m w0 n (.cond c x y) Q f l := fun a w r s => by
  refine wpIn_cond ((r.eval c).trans hc) ?_
  cases b with
  | true => exact ht rfl a w r s
  | false => exact hf rfl a w r s
theorem pxi_then {y : Code} (h : CDI P ro m w0 n y Q f l) : PX w0 n .normal (Exit.then (y.wpIn (FF ro) m P Q) Q) f l := h
/-- a fenced call, by a walk -/
theorem callsI_enter {k : FuncId} {fn : Func} {c : Code} {args : Array Value} {w : World} {R : Ending → World → Prop} (hf : P.funcs[k]? = some fn) (hb : fn.body = some c) (hn : fn.ntmps = n) (hs : Nat.ble args.size n = true) (s : Sat w0 w l)
    (h : CDI P none m w0 n c (bodyPost P fn R) (fun t => args.getD t undef) l) : CallsIn Fence.wide m P k args w R := by
  have hs' : args.size ≤ n := Nat.le_of_ble_eq_true hs
  refine callsIn_of_wp hf hb trivial (h _ _ ⟨by simp [hn]; omega, fun t => ?_, rfl⟩ s) rfl
  simp only [Array.getD_eq_getD_getElem?]
  rcases Nat.lt_or_ge t args.size with h1 | h1
  · rw [Array.getElem?_append_left h1]
  · rw [Array.getElem?_append_right h1, Array.getElem?_eq_none h1]
    rcases Nat.lt_or_ge (t - args.size) (fn.ntmps - args.size) with h2 | h2
    · simp [h2]
    · simp [Nat.not_lt.2 h2]
theorem callsI_enterM {k : FuncId} {fn : Func} {c : Code} {args : Array Value} {w : World} {R : Ending → World → Prop} (hf : P.funcs[k]? = some fn) (hb : fn.body = some c) (hn : fn.ntmps = n) (hs : Nat.ble args.size n = true) (s : Sat w0 w l)
    (h : CDI P none m w0 n c (bodyPostM Fence.wide m P fn R) (fun t => args.getD t undef) l) : CallsIn Fence.wide m P k args w R := by
  have hs' : args.size ≤ n := Nat.le_of_ble_eq_true hs
  refine callsIn_of_wp_marks hf hb trivial (h _ _ ⟨by simp [hn]; omega, fun t => ?_, rfl⟩ s) rfl
  simp only [Array.getD_eq_getD_getElem?]
  rcases Nat.lt_or_ge t args.size with h1 | h1
  · rw [Array.getElem?_append_left h1]
  · rw [Array.getElem?_append_right h1, Array.getElem?_eq_none h1]
    rcases Nat.lt_or_ge (t - args.size) (fn.ntmps - args.size) with h2 | h2
    · simp [h2]
    · simp [Nat.not_lt.2 h2]
/-- yield is called -/
theorem oli_yield {d : Nat} {ty : TypeId} {pos : String} {aft : Array Edge} {lp : Nat} {y : Operand} {args : Array Operand} {as_ : Array TypeId} {vs : List Value} {R : Ending → World → Prop} (hd : Nat.ble (d + 1) n = true)
    (hy : ev f y = .func (.yield lp) #[] #[]) (hv : args.toList.map (ev f) = vs) (hY : ∀ w, Sat w0 w l → YieldAt Fence.wide (m - 1) P lp vs.toArray w R)
    (hk : ∀ e w', R e w' → ∃ v, e = .returned v ∧ ∀ a, Rep n a (upd f d v) → wpListIn Fence.wide m P ops Q rest a w') :
    OLI P none m w0 n ops Q (⟨some d, .call ⟨.value y, args, as_⟩, ty, pos, aft, none⟩ :: rest) f l := fun a w r s => by
  have he : args.map a.eval = vs.toArray := by
    rw [← hv]; apply Array.toList_inj.1; rw [Array.toList_map]; simp only [List.toList_toArray]; congr 1; funext x; exact r.eval x
  have hfv : a.eval y = .func (.yield lp) #[] #[] := (r.eval y).trans hy
  obtain ⟨fn, tmps, assign, body, hrun, hR⟩ := hY w s
  unfold wpListIn
  rw [if_pos (show Region.wanted _ _ = true by simp [Region.wanted])]
  refine ⟨fun _ _ => trivial, ?_⟩
  have hx : ((Oper.semAt (FF none).round a.eval ⟨some d, .call ⟨.value y, args, as_⟩, ty, pos, aft, none⟩).run P w) = .ok (.round lp fn tmps assign body) w := by
    rw [Oper.semAt_eq _ _ _ (by intro c h; cases h)]
    simp [execOp, resolve, Deferred.ofValue, invoke, he, hfv, hrun]
  rw [hx]
  refine ⟨fun h => (by cases h), hR.mono fun e w' h => ?_⟩
  obtain ⟨v, rfl, h2⟩ := hk e w' h
  exact h2 _ (r.put hd v)
end
theorem calls_into {P : Program} {k : Nat} (hB : callB P k = true) : ∀ args w, (callFunc k args).run P w = .ok (.enter k args) w := fun args w => by
  unfold callB at hB
  cases hf : P.funcs[k]? with
  | none => simp [hf] at hB
  | some fn =>
    simp only [hf, Bool.and_eq_true, Bool.not_eq_true', Option.isSome_iff_exists] at hB
    obtain ⟨h1, c, h2⟩ := hB
    have h1' : ¬ fn.name = "runtime.NumGoroutine" := by simpa using h1
    simp [callFunc, hf, h1', h2]
theorem wpIn_of_cdi {P : Program} {lp m n : Nat} {w0 w : World} {Q : Exit → Act → World → Prop} {f : Fr} {l : List HProp} {c : Code} {a : Act} (r : Rep n a f) (s : Sat w0 w l) (h : CDI P (some lp) m w0 n c Q f l) : c.wpIn (Fence.wide.inRound lp) m P Q a w := h a w r s
theorem wpListIn_run {P : Program} {m : Nat} {ops : Array Oper} {Q : Exit → Act → World → Prop} {o : Oper} {rest : List Oper} {a : Act} {w : World} {v : Value} (hg : o.guard = none) (hnd : ∀ c, o.op ≠ .defer c) (hr : (execOp a.eval o).run P w = .ok (.value v) w) (k : wpListIn Fence.wide m P ops Q rest (a.put o.dst v) w) : wpListIn Fence.wide m P ops Q (o :: rest) a w := by
  refine wpListIn_plain hg fun K hK => ⟨fun _ _ => trivial, ?_⟩
  rw [Oper.semAt_eq _ _ _ hnd, hr]
  exact hK _ _ k
theorem Sat.grown {W w : World} {l : List HProp} (s : Sat W w (Old W [] :: l)) : W.grownBy w none := by
  have b := s.below
  exact ⟨b.os, b.tape, b.output, b.size, fun k hk _ => b.block k hk⟩
theorem Sat.old_at {w0 W w : World} {X : List Nat} {l : List HProp} (s : Sat w0 w (Old W X :: l)) {k : Nat} {o : Obj} (hk : k ∉ X) (ho : W.heap[k]? = some o) : w.heap[k]? = some o := by
  obtain ⟨h, a, x, y, d, rfl, p, q⟩ := s.own
  unfold Old at p; subst p
  refine a k o ?_
  simp [Hp.join, hk, ho]
theorem Sat.ge_of_old {w0 W w : World} {X : List Nat} {l : List HProp} {b : Nat} {o : Obj} (s : Sat w0 w (Blk b o :: Old W X :: l)) (hb : b ∉ X) : W.heap.size ≤ b := by
  obtain ⟨h, a, x, y, d, rfl, p, x', y', d', rfl, p', q⟩ := s.own
  unfold Blk at p; unfold Old at p'; subst p; subst p'
  rcases Nat.lt_or_ge b W.heap.size with hlt | hge
  · exfalso
    have := d b
    obtain ⟨o', ho'⟩ : ∃ o', W.heap[b]? = some o' := ⟨_, Array.getElem?_eq_getElem hlt⟩
    simp [Hp.join, hb, ho'] at this
  · exact hge
/-- what an owned thing's blocks are -/
def Cellish (B0 : Nat) (P : HProp) : Prop := ∀ h, P h → ∀ k o, h k = some o → k < B0 ∨ o.isCells = true
theorem cellish_blk {B0 b : Nat} {cs : Array Value} {t : TypeId} {fr : Nat × Nat} : Cellish B0 (Blk b (.cells cs t fr)) := fun h p k o hk => by
  unfold Blk at p; subst p
  by_cases e : k = b
  · simp [e] at hk; subst hk; exact .inr rfl
  · simp [e] at hk
theorem cellish_row {α : Type} {E : Enc α} {B0 : Nat} {e : TypeId} {v : Value} {xs : List α} : Cellish B0 (Row e E v xs) := fun h p k o hk => by
  rcases p with ⟨_, _, h3⟩ | ⟨g, off, cap, cur, fr, _, _, _, _, _, _, h6⟩
  · rw [h3 k] at hk; cases hk
  · exact cellish_blk h h6 k o hk
theorem cellish_old {W : World} {X : List Nat} : Cellish W.heap.size (Old W X) := fun h p k o hk => by
  unfold Old at p; subst p
  by_cases e : k ∈ X
  · simp [e] at hk
  · simp [e] at hk
    exact .inl (Array.getElem?_eq_some_iff.1 hk).1
theorem cellish_stars {B0 : Nat} : ∀ {l : List HProp}, (∀ P ∈ l, Cellish B0 P) → Cellish B0 (stars l)
  | [], _, h, p, k, o, hk => by rw [p k] at hk; cases hk
  | P :: l, hl, h, p, k, o, hk => by
    obtain ⟨x, y, d, rfl, p1, p2⟩ := p
    unfold Hp.join at hk
    cases hx : x k with
    | some o' => rw [hx] at hk; cases hk; exact hl P (by simp) x p1 k o hx
    | none => rw [hx] at hk; exact cellish_stars (fun Q hQ => hl Q (by simp [hQ])) y p2 k o hk
theorem Sat.turn {w0 w w' : World} {l : List HProp} {B0 : Nat} {row : Option Nat} (s : Sat w0 w l) (hl : ∀ P ∈ l, Cellish B0 P) (hg : w.grownBy w' row) (hr : ∀ r, row = some r → B0 ≤ r ∧ ∃ o : Obj, w.heap[r]? = some o ∧ o.isCells = false) : Sat w0 w' l := by
  obtain ⟨h, a, x⟩ := s.own
  refine ⟨hg.os.trans s.os, hg.tape.trans s.tape, hg.output.trans s.output, Nat.le_trans s.size hg.size, h, fun k o hk => ?_, x⟩
  have hw := a k o hk
  rw [hg.block k (Array.getElem?_eq_some_iff.1 hw).1 fun e => ?_]
  · exact hw
  · obtain ⟨h1, o', h2, h3⟩ := hr k e.symm
    rw [hw] at h2; cases h2
    rcases cellish_stars hl h x k o hk with h4 | h4
    · omega
    · rw [h4] at h3; cases h3
/-- what was owned ahead, and what came of the loop -/
theorem Sat.regain {w0 W0 w : World} {bx : Nat} {o : Obj} {A : HProp} {L : List HProp} (s0 : Sat w0 W0 (Blk bx o :: L)) (s : Sat W0 w (A :: Old W0 [bx] :: [])) : Sat w0 w (A :: L) := by
  obtain ⟨h0, a0, x0, y0, d0, rfl, p0, q0⟩ := s0.own
  obtain ⟨h, a, x, y, d, rfl, p, x1, y1, d1, rfl, p1, q1⟩ := s.own
  unfold Blk at p0; subst p0
  unfold Old at p1; subst p1
  have hy1 : y1 = fun _ => none := emp_iff.1 q1
  subst hy1
  have hsub : ∀ k o', y0 k = some o' → k ≠ bx ∧ W0.heap[k]? = some o' := fun k o' hk => by
    have hne : k ≠ bx := fun e => by
      subst e
      have := d0 k
      simp [hk] at this
    refine ⟨hne, a0 k o' ?_⟩
    simp [Hp.join, hne, hk]
  refine ⟨s.os.trans s0.os, s.tape.trans s0.tape, s.output.trans s0.output, Nat.le_trans s0.size s.size, Hp.join x y0, fun k o' hk => ?_, x, y0, fun k => ?_, rfl, p, q0⟩
  · unfold Hp.join at hk
    cases hx : x k with
    | some o2 => rw [hx] at hk; cases hk; exact a k o' (by simp [Hp.join, hx])
    | none =>
      rw [hx] at hk
      obtain ⟨h1, h2⟩ := hsub k o' hk
      exact a k o' (by simp [Hp.join, hx, h1, h2])
  · rcases d k with e | e
    · exact .inl e
    · right
      cases hy : y0 k with
      | none => rfl
      | some o' =>
        obtain ⟨h1, h2⟩ := hsub k o' hy
        simp [Hp.join, h1, h2] at e
theorem Sat.rebase {W0 W w : World} {X : List Nat} {bx : Nat} {A B : HProp} {m : List HProp} (s : Sat W w (A :: B :: Old W X :: m)) (hos : W.os = W0.os) (htp : W.tape = W0.tape) (hou : W.output = W0.output) (hsz : W0.heap.size ≤ W.heap.size)
    (hk : ∀ k o, k ≠ bx → W0.heap[k]? = some o → k ∉ X ∧ W.heap[k]? = some o) : Sat W0 w [A, B, Old W0 [bx]] := by
  obtain ⟨h, a, x1, y1, d1, rfl, p1, x2, y2, d2, rfl, p2, x3, y3, d3, rfl, p3, q3⟩ := s.own
  unfold Old at p3; subst p3
  let z : Hp := fun k => if k ∈ [bx] then none else W0.heap[k]?
  have hz : ∀ k o, z k = some o → (fun k => if k ∈ X then none else W.heap[k]?) k = some o := fun k o hzk => by
    by_cases e : k = bx
    · simp [z, e] at hzk
    · simp [z, e] at hzk
      obtain ⟨h1, h2⟩ := hk k o e hzk
      simp [h1, h2]
  refine ⟨s.os.trans hos, s.tape.trans htp, s.output.trans hou, Nat.le_trans hsz s.size, Hp.join x1 (Hp.join x2 z), fun k o hko => ?_, x1, Hp.join x2 z, fun k => ?_, rfl, p1, x2, z, fun k => ?_, rfl, p2, z, fun _ => none, disj_none _, (join_none _).symm, rfl, fun _ => rfl⟩
  · refine a k o ?_
    unfold Hp.join at hko ⊢
    cases h1 : x1 k with
    | some o1 => rw [h1] at hko; exact hko
    | none =>
      rw [h1] at hko
      dsimp only at hko ⊢
      cases h2 : x2 k with
      | some o2 => rw [h2] at hko; exact hko
      | none =>
        rw [h2] at hko
        dsimp only at hko ⊢
        have := hz k o hko
        dsimp only at this
        rw [this]
  · rcases d1 k with e | e
    · exact .inl e
    · right
      unfold Hp.join at e ⊢
      cases h2 : x2 k with
      | some o2 => simp [h2] at e
      | none =>
        dsimp only
        cases h3 : z k with
        | none => rfl
        | some o3 =>
          have := hz k o3 h3
          dsimp only at this
          simp [h2, this] at e
  · rcases d2 k with e | e
    · exact .inl e
    · right
      cases h3 : z k with
      | none => rfl
      | some o3 =>
        have := hz k o3 h3
        dsimp only at this
        unfold Hp.join at e
        simp [this] at e
def encSl : Enc (Option Addr × Nat × Nat) := ⟨fun x => [.slice x.1 x.2.1 x.2.2], 1, fun _ => rfl, fun x u hu => by simp at hu; subst hu; rfl, by omega⟩
end Go.SL

set_option linter.unusedVariables false
set_option linter.unusedSimpArgs false
namespace Go.SL
open Go.Proofs

/-- what a round keeps -/
def Kb (B0 bx : Nat) (A B : World) : Prop := A.heap.size ≤ B.heap.size ∧ ∀ k, k < B0 → k ≠ bx → B.heap[k]? = A.heap[k]?
theorem Kb.trans {B0 bx : Nat} {A B C : World} (h : Kb B0 bx A B) (h' : Kb B0 bx B C) : Kb B0 bx A C := ⟨Nat.le_trans h.1 h'.1, fun k h1 h2 => (h'.2 k h1 h2).trans (h.2 k h1 h2)⟩
theorem Kb.of_grown {B0 bx : Nat} {A B : World} (h : A.grownBy B none) (hB : B0 ≤ A.heap.size) : Kb B0 bx A B := ⟨h.size, fun k h1 _ => h.block k (by omega) (by simp)⟩
theorem Kb.cell {B0 bx : Nat} {A B : World} (h : Kb B0 bx A B) {a : Addr} (h1 : a.block < B0) (h2 : a.block ≠ bx) : B.cell? a = A.cell? a := World.cell?_of_block (h.2 _ h1 h2)
def itmp (a : Act) (t : Nat) : Nat := match a.tmps.getD t undef with | .int _ i => i.toNat | _ => 0
set_option maxRecDepth 100000 in
set_option maxHeartbeats 1000000 in
theorem iter_stops (Bs : Nat) (xs : List Node) (ao : Option Addr) (c : Nat) (B0 bx : Nat) (w : World) (hB : B0 ≤ w.heap.size) (hBs : Bs < B0) (hBx : Bs ≠ bx) (hcell : w.heap[Bs]? = some (.cells #[.slice ao xs.length c] 111 (0, 0)))
  (hn : ao = none → xs = []) (hc : ∀ ad, ao = some ad → ad.block < B0 ∧ ad.block ≠ bx ∧ ∀ j u, (encNode.flat xs)[j]? = some u → w.cell? (ad.add j) = some u) (hlen : xs.length ≤ 1000000) :
  SeqStopsK Fence.wide 3 Try.prog 79 #[.pointer (some ⟨Bs, 0, none⟩)] (fun x : Node => #[Value.agg (nodeC x).toArray]) (Kb B0 bx) (fun ys => ys = xs) (fun _ => True) xs.length w := fun lp J Jx W hW hJ hJx hY h0 => by
 have hK0 : Kb B0 bx w W := ⟨hW.size, fun k h1 _ => hW.block k (by omega)⟩
 have rs : ∀ V l, Kb B0 bx w V → Rds V (Old V [] :: l) encSl (some ⟨Bs, 0, none⟩) [(ao, xs.length, c)] := fun V l h => rds_old 0 rfl (fun e => by cases e) fun ad he j u hu => by
  cases he
  have hj : j = 0 := by
   have := (List.getElem?_eq_some_iff.1 hu).1
   simp [Enc.flat, encSl] at this
   omega
  subst hj
  simp [Enc.flat, encSl] at hu
  subst hu
  have e : (⟨Bs, 0, none⟩ : Addr).add 0 = ⟨Bs, 0, none⟩ := rfl
  rw [e, h.cell hBs hBx]
  simp [World.cell?, hcell]
 have rn : ∀ V l, Kb B0 bx w V → Rds V (Old V [] :: l) encNode ao xs := fun V l h => rds_old 0 rfl hn fun ad he j u hu => by
  obtain ⟨h1, h2, h4⟩ := hc ad he
  have e : (ad.add j).block = ad.block := by unfold Addr.add; split <;> rfl
  rw [h.cell (by rw [e]; exact h1) (by rw [e]; exact h2)]
  exact h4 j u hu
 refine callsI_enter (w0 := W) Try.func79 rfl rfl rfl (Sat.start W) ?_
 refine cdi_sr ?_
 refine oli_q (wn_none rfl) (op_ldw (E := encSl) (i := 0) sc_111 (rs W [] hK0) rfl (by simp) rfl) rfl ?_
 refine oli_q (wn_none rfl) (op_len_slice Try.underlying111 rfl) rfl ?_
 refine oli_q (wn_none rfl) (op_move (v := .int _ _) rfl) rfl ?_
 refine oli_nil_then ?_
 refine cdi_block ?_
 intro a w1 ra s1
 refine wpIn_loop (fun a w' => ∃ k, k ≤ xs.length ∧ a.tmps.size = 16 ∧ a.defers = [] ∧ a.tmps.getD 0 undef = .func (.yield lp) #[] #[] ∧ a.tmps.getD 5 undef = .slice ao xs.length c ∧ a.tmps.getD 6 undef = .int .i64 xs.length ∧ a.tmps.getD 7 undef = .int .i64 (k : Int) ∧ J (xs.take k) w' ∧ Kb B0 bx w w' ∧ B0 ≤ w'.heap.size) (fun a _ => xs.length - itmp a 7)
  ⟨0, Nat.zero_le _, ra.size, ra.defers, (ra.get 0).trans rfl, (ra.get 5).trans rfl, (ra.get 6).trans rfl, (ra.get 7).trans rfl, hJ [] W w1 none h0 s1.grown (fun r e => by cases e), hK0.trans (.of_grown s1.grown (Nat.le_trans hB hW.size)), Nat.le_trans hB (Nat.le_trans hW.size s1.size)⟩ ?_
 rintro a2 w2 ⟨k, hk, hsz, hdf, t0, t5, t6, t7, hJk, hKb, hBw⟩
 have hm : itmp a2 7 = k := by unfold itmp; rw [t7]; simp
 have hA : Agree (fun t => a2.tmps.getD t undef) [(0, .func (.yield lp) #[] #[]), (5, .slice ao xs.length c), (6, .int .i64 xs.length), (7, .int .i64 (k : Int))] := ⟨t0, t5, t6, t7, trivial⟩
 have ra2 : Rep 16 a2 (upds (fun t => a2.tmps.getD t undef) [(0, .func (.yield lp) #[] #[]), (5, .slice ao xs.length c), (6, .int .i64 xs.length), (7, .int .i64 (k : Int))]) := by rw [upds_agree hA]; exact ⟨hsz, fun _ => rfl, hdf⟩
 refine (?_ : CDI Try.prog none 3 w2 16 _ _ (upds (fun t => a2.tmps.getD t undef) [(0, .func (.yield lp) #[] #[]), (5, .slice ao xs.length c), (6, .int .i64 xs.length), (7, .int .i64 (k : Int))]) [Old w2 []]) a2 w2 ra2 (Sat.start w2)
 rw [hm]
 refine cdi_sr ?_
 refine oli_q (wn_none rfl) (op_lt rfl rfl) rfl ?_
 refine oli_nil_then ?_
 refine cdi_seq ?_
 refine cdi_cond rfl (fun hb1 => ?_) (fun hb1 => ?_)
 ·have hkl : k < xs.length := by have := of_decide_eq_true hb1; omega
  refine cdi_skip ?_
  refine pxi_then ?_
  refine cdi_seq ?_
  refine cdi_block ?_
  refine cdi_sr ?_
  refine oli_q (wn_none rfl) (op_index k sB_111 rfl rfl rfl (rn w2 [] hKb) rfl hkl) rfl ?_
  refine oli_q (wn_none rfl) (op_ldaw (L := nodeC _) ag_51 (rn w2 [] hKb) rfl hkl rfl (nodeC_ta _)) rfl ?_
  refine oli_i (wn_none rfl) (os_alloc (cs := (nodeC Node.zero).toArray) zB_51 (by kernel_rfl)) rfl ?_; rintro _ _ ⟨bx1, rfl, rfl⟩
  refine Zbq ?_
  refine oli_nil_then ?_
  refine cdi_sr ?_
  refine oli_q (wn_none rfl) (op_move (v := .func _ _ _) rfl) rfl ?_
  refine oli_q (wn_none rfl) (op_lda (L := nodeC _) 0 ag_51 rfl rfl (nodeC_ta _) (by simp [nodeC_len])) rfl ?_
  refine oli_yield (lp := lp) (vs := [.agg (nodeC xs[k]).toArray]) (R := fun e W' => (e = .returned (.bool true) ∧ J (xs.take k ++ [xs[k]]) W' ∧ Kb B0 bx w W' ∧ B0 ≤ W'.heap.size) ∨ (e = .returned (.bool false) ∧ Jx (xs.take k ++ [xs[k]]) W')) rfl rfl rfl (fun w3 s3 => ?_) ?_
  ·have hg : w2.grownBy w3 none := (s3.pull 1).grown
   have hK3 : Kb B0 bx w w3 := hKb.trans (.of_grown hg hBw)
   obtain ⟨fn, tmps, assign, body, hr, hR⟩ := hY (xs.take k) xs[k] w3 (hJ _ _ _ none hJk hg (fun r e => by cases e)) (by simp; omega)
   refine ⟨fn, tmps, assign, body, hr, hR.mono ?_⟩
   rintro e W' (⟨rfl, h1, h2⟩ | ⟨rfl, h1⟩)
   ·exact .inl ⟨rfl, h1, hK3.trans h2, Nat.le_trans (Nat.le_trans hBw hg.size) h2.1⟩
   ·exact .inr ⟨rfl, h1⟩
  ·rintro e w3 (⟨rfl, hJ3, hK3, hB3⟩ | ⟨rfl, hJ3⟩)
   ·refine ⟨_, rfl, fun a3 ra3 => ?_⟩
    refine (?_ : OLI Try.prog none 3 w3 16 _ _ _ _ [Old w3 []]) a3 w3 ra3 (Sat.start w3)
    refine oli_q (wn_none rfl) (op_not rfl) rfl ?_
    refine oli_nil_then ?_
    refine cdi_cond rfl (fun hb2 => absurd hb2 (by decide)) (fun hb2 => ?_)
    refine cdi_skip ?_
    refine px_blockN ?_
    refine pxi_then ?_
    refine cdi_region ?_
    refine oli_q (wn_none rfl) (op_add rfl rfl (by omega) (by omega)) rfl ?_
    refine oli_q (wn_none rfl) (op_move (v := .int _ _) rfl) rfl ?_
    refine oli_nil ?_
    intro a4 w4 ra4 s4
    have hg4 := s4.grown
    have e7 : a4.tmps.getD 7 undef = .int .i64 ((k + 1 : Nat) : Int) := (ra4.get 7).trans (congrArg (Value.int .i64) (by simp))
    refine ⟨⟨k + 1, hkl, ra4.size, ra4.defers, (ra4.get 0).trans rfl, (ra4.get 5).trans rfl, (ra4.get 6).trans rfl, e7, ?_, hK3.trans (.of_grown hg4 hB3), Nat.le_trans hB3 s4.size⟩, ?_⟩
    ·rw [List.take_add_one, List.getElem?_eq_getElem hkl]
     exact hJ _ _ _ none hJ3 hg4 (fun r e => by cases e)
    ·have : itmp a4 7 = k + 1 := by unfold itmp; rw [e7]; simp
     rw [this]; omega
   ·refine ⟨_, rfl, fun a3 ra3 => ?_⟩
    refine (?_ : OLI Try.prog none 3 w3 16 _ _ _ _ [Old w3 []]) a3 w3 ra3 (Sat.start w3)
    refine oli_q (wn_none rfl) (op_not rfl) rfl ?_
    refine oli_nil_then ?_
    refine cdi_cond rfl (fun hb2 => ?_) (fun hb2 => absurd hb2 (by decide))
    refine cdi_ret ?_
    refine Zcw ?_
    refine px_blockR ?_
    intro a5 w5 ra5 s5
    refine ⟨ra5.defers, _, results_none rfl _ _ _, ⟨_, rfl⟩, .inr ⟨_, trivial, hJx _ _ _ none hJ3 s5.grown (fun r e => by cases e)⟩⟩
 ·have hkl : k = xs.length := by have := of_decide_eq_false hb1; omega
  refine cdi_exit ?_
  refine Zct ?_
  subst hkl
  intro a5 w5 ra5 s5
  refine ⟨ra5.defers, _, results_none rfl _ _ _, ⟨_, rfl⟩, .inl ⟨_, rfl, ?_⟩⟩
  rw [List.take_length] at hJk
  exact hJ _ _ _ none hJk s5.grown (fun r e => by cases e)

set_option maxRecDepth 100000 in
set_option maxHeartbeats 1000000 in
theorem SValues_calls {w0 w : World} {l : List HProp} (ao : Option Addr) (n c : Nat) (hs : Sat w0 w (l))  :
  Calls Try.prog 55 #[.slice ao n c] w (Ret w0 fun v l' => ∃ b, v = .func (.func 79) #[] #[.pointer (some ⟨b, 0, none⟩)] ∧ l' = Blk b (.cells #[.slice ao n c] 111 (0, 0)) :: l) := by
 refine calls_enter Try.func55 rfl rfl rfl hs ?_
 refine Z0 ?_
 refine oi (os_box (v := .slice _ _ _) rfl rfl) ?_; rintro _ _ ⟨bx1, rfl, rfl⟩
 refine oq (op_assign (v := .nilFunc) rfl) ?_
 refine Z19 ?_
 refine oq (op_makefunc (F := []) (C := [_]) rfl rfl) ?_
 refine oq (op_assign (v := .func _ _ _) rfl) ?_
 refine Z1s ?_
 exact px_ret1 rfl (v := .func _ _ _) rfl (fun _ s => s) ⟨_, rfl, rfl⟩

/-- between two rounds -/
def RI (W0 : World) (bx : Nat) (pre : List Node) (W : World) : Prop := ∃ ao c, Sat W0 W [Blk bx (.cells #[.slice ao (pre.map (·.root)).length c] 37 (0, 0)), Row 24 encRoot (.slice ao (pre.map (·.root)).length c) (pre.map (·.root)), Old W0 [bx]]
theorem RI_from (W0 : World) (bx : Nat) : OwnFrom W0.heap.size (RI W0 bx) := fun pre A B row ⟨ao, c, s⟩ hg hr => ⟨ao, c, s.turn (by
 intro P hP
 simp only [List.mem_cons, List.not_mem_nil, or_false] at hP
 rcases hP with rfl | rfl | rfl
 ·exact cellish_blk
 ·exact cellish_row
 ·exact cellish_old) hg hr⟩
/-- the loop's variable has come -/
def RA (W0 : World) (bx : Nat) (x : Node) (a' : Act) (W : World) : Prop := ∃ f bn, Rep 19 a' f ∧ f 3 = .pointer (some ⟨bx, 0, none⟩) ∧ f 4 = .pointer (some ⟨bn, 0, none⟩) ∧ W.heap[bn]? = some (.cells (nodeC x).toArray 51 (0, 0)) ∧ W0.heap.size ≤ bn
theorem RA_from (W0 : World) (bx : Nat) (x : Node) (a' : Act) : OwnFrom W0.heap.size (fun (_ : Unit) W => RA W0 bx x a' W) := fun _ A B row ⟨f, bn, h1, h2, h3, h4, h5⟩ hg hr => ⟨f, bn, h1, h2, h3, (hg.block bn (Array.getElem?_eq_some_iff.1 h4).1 fun e => (by
 obtain ⟨_, o, h6, h7⟩ := hr bn e.symm
 rw [h4] at h6
 cases h6
 cases h7)).trans h4, h5⟩
/-- what a round's body begins with -/
theorem RI_open {W0 W : World} {bx bn : Nat} {pre : List Node} {x : Node} (hI : RI W0 bx pre W) (hbx : bx < W0.heap.size) (hbn : W.heap[bn]? = some (.cells (nodeC x).toArray 51 (0, 0))) (hge : W0.heap.size ≤ bn) :
  ∃ ao c X, (∀ k ∈ X, k = bx ∨ W0.heap.size ≤ k) ∧ (∀ k ∈ X, ∃ cs t fr, W.heap[k]? = some (.cells cs t fr)) ∧ Sat W W [Row 24 encRoot (.slice ao (pre.map (·.root)).length c) (pre.map (·.root)), Blk bx (.cells #[.slice ao (pre.map (·.root)).length c] 37 (0, 0)), Blk bn (.cells (nodeC x).toArray 51 (0, 0)), Old W X] := by
 obtain ⟨ao, c, s⟩ := hI
 have hb1 := s.blk
 have hne : bn ≠ bx := by omega
 have s0 := (Sat.start W).take hbn (by simp)
 have s1 : Sat W W [Blk bx (.cells #[.slice ao (pre.map (·.root)).length c] 37 (0, 0)), Old W [bx, bn], Blk bn (.cells (nodeC x).toArray 51 (0, 0))] := (s0.pull 1).take hb1 (by simp; omega)
 rcases (s.pull 1).rowOpen with ⟨h1, h2, _⟩ | ⟨g, off, cap, cur, fr, h1, h2, h3, h4, h5, h6, s'⟩
 ·refine ⟨ao, c, [bx, bn], ?_, ?_, ?_⟩
  ·intro k hk; simp at hk; rcases hk with rfl | rfl
   ·exact .inl rfl
   ·exact .inr hge
  ·intro k hk; simp at hk; rcases hk with rfl | rfl
   ·exact ⟨_, _, _, hb1⟩
   ·exact ⟨_, _, _, hbn⟩
  ·have s2 := ((s1.pull 2).pull 1)
   have s3 : Sat W W [Blk bx (.cells #[.slice ao (pre.map (·.root)).length c] 37 (0, 0)), Blk bn (.cells (nodeC x).toArray 51 (0, 0)), Old W [bx, bn]] := s2
   rw [h1, h2]
   rw [h1] at s3
   exact s3.rowNil
 ·have hg := s'.blk
  have s'' : Sat W0 W [Blk g (.cells cur 24 fr), Blk bx (.cells #[.slice ao (pre.map (·.root)).length c] 37 (0, 0)), Old W0 [bx]] := s'
  have hgx : g ≠ bx := s''.ne
  have hgn : g ≠ bn := fun e => by subst e; rw [hbn] at hg; injection hg with hg; injection hg with _ h _; cases h
  have hgB : W0.heap.size ≤ g := by
   have s3 : Sat W0 W [Blk g (.cells cur 24 fr), Old W0 [bx]] := s''.del 1
   exact s3.ge_of_old (by simpa using hgx)
  have s2 : Sat W W [Blk g (.cells cur 24 fr), Old W [g, bx, bn], Blk bx (.cells #[.slice ao (pre.map (·.root)).length c] 37 (0, 0)), Blk bn (.cells (nodeC x).toArray 51 (0, 0))] := (s1.pull 1).take hg (by simp; omega)
  refine ⟨ao, c, [g, bx, bn], ?_, ?_, ?_⟩
  ·intro k hk; simp at hk; rcases hk with rfl | rfl | rfl
   ·exact .inr hgB
   ·exact .inl rfl
   ·exact .inr hge
  ·intro k hk; simp at hk; rcases hk with rfl | rfl | rfl
   ·exact ⟨_, _, _, hg⟩
   ·exact ⟨_, _, _, hb1⟩
   ·exact ⟨_, _, _, hbn⟩
  ·have s3 : Sat W W [Blk g (.cells cur 24 fr), Blk bx (.cells #[.slice ao (pre.map (·.root)).length c] 37 (0, 0)), Blk bn (.cells (nodeC x).toArray 51 (0, 0)), Old W [g, bx, bn]] := ((s2.pull 3).pull 3).pull 2
   rw [h1] at s3 ⊢
   exact s3.rowMk h6 h2 h3 h4 h5
set_option maxRecDepth 100000 in
set_option maxHeartbeats 1000000 in
theorem Roots_calls {w0 w : World} {l : List HProp} (p : Nat) (t : TreeS) (hs : Sat w0 w (TreeObj p t :: l)) :
  Calls Try.prog 20 #[.pointer (some ⟨p, 0, none⟩)] w (Ret w0 fun v l' => ∃ ao c, v = .slice ao (t.roots).length c ∧ l' = Row 24 encRoot (.slice ao (t.roots).length c) (t.roots) :: TreeObj p t :: l) := by
 obtain ⟨a1, c1, b, hw, hs⟩ := hs.treeOpen
 have hm2 := hw.m2; have hle := hw.le
 refine (callsIn_wide (n := 4)).1 ?_
 refine callsI_enterM (w0 := w0) Try.func20 rfl rfl rfl hs ?_
 refine cdi_sr ?_
 refine oli_q (wn_none rfl) (op_assign (v := .slice none 0 0) rfl) rfl ?_
 refine oli_nil_then ?_
 refine cdi_sr ?_
 refine oli_i (wn_none rfl) (os_alloc zB_37 rfl) rfl ?_; rintro _ _ ⟨bx, rfl, rfl⟩
 refine oli_nil_then ?_
 refine cdi_seq ?_
 refine cdi_sr ?_
 refine oli_q (wn_none rfl) (op_move (v := .pointer _) rfl) rfl ?_
 refine oli_q (wn_none rfl) (op_nenil Try.underlying26 rfl rfl) rfl ?_
 refine oli_nil_then ?_
 refine cdi_cond rfl (fun _ => ?_) (fun hb => absurd hb (by simp))
 refine cdi_sr ?_
 refine oli_q (wn_none rfl) (op_move (v := .pointer _) rfl) rfl ?_
 refine oli_q (wn_none rfl) (op_nilck rfl) rfl ?_
 refine oli_q (wn_none rfl) (op_field fld_114_0 rfl) rfl ?_
 refine oli_q (wn_none rfl) (op_ld 1 sc_111 rfl rfl rfl) rfl ?_
 refine oli_i (wn_none rfl) (os_call cb_55 rfl (fun w s => SValues_calls _ _ _ s)) rfl ?_; rintro _ _ ⟨bv, rfl, rfl⟩
 refine oli_nil_then ?_
 refine cdi_block ?_
 intro a W0 ra s0
 have hbv := s0.blk
 have s01 := s0.pull 1
 have hbx := s01.blk
 have hlt1 : bx < W0.heap.size := (Array.getElem?_eq_some_iff.1 hbx).1
 have hlt2 : bv < W0.heap.size := (Array.getElem?_eq_some_iff.1 hbv).1
 have hvx : bv ≠ bx := s0.ne
 have hrow := (s0.pull 3).rowCells _ _ _ rfl
 have hnx : ∀ ad, a1 = some ad → ad.block < W0.heap.size ∧ ad.block ≠ bx := by
  intro ad he
  rcases ((s0.pull 1).pull 3).rowOpen with ⟨h1, _, _⟩ | ⟨g, off, cap, cur, fr, h1, _, _, _, _, _, s'⟩
  ·injection h1 with h1; rw [h1] at he; cases he
  injection h1 with h1; rw [h1] at he; cases he
  exact ⟨s'.lt, s'.ne⟩
 refine wpIn_rangeFunc_ownH (F := Fence.wide) (n := 4) rfl (by decide) (gf := 79) (lb := #[.pointer (some ⟨bv, 0, none⟩)]) ((ra.get 11).trans rfl) trivial (calls_into cb_79)
  (iter_stops bv t.nodes a1 c1 W0.heap.size bx W0 (Nat.le_refl _) hlt2 hvx hbv hrow.1 (fun ad he => ⟨(hnx ad he).1, (hnx ad he).2, hrow.2 ad he⟩) (by omega))
  (fun h h' => h.trans h') (fun W lk o o' h1 _ _ _ => ⟨by simp, fun k h2 _ => World.putObj_heap_other (by omega)⟩) (RowKit.Below.refl _ _) (fun _ => rfl)
  (RI W0 bx) (fun _ _ _ => False) (RI_from W0 bx) (fun _ _ _ _ _ hf _ _ => hf) ?h0 (RA W0 bx) (RA_from W0 bx) ?assign ?body ?done ?stop
 case h0 =>
  have s1 := (Sat.start W0).take hbx (by simp)
  exact ⟨none, 0, (s1.rowNil (e := 24) (E := encRoot)).pull 1⟩
 case assign =>
  intro lp pre x W K hI hK
  have hIs : W0.heap.size ≤ W.heap.size := let ⟨_, _, s⟩ := hI; s.size
  have rp := ra.put (d := 12) rfl (.agg (nodeC x).toArray)
  refine wpIn_of_cdi (w0 := W) (l := [Old W []]) (n := 19) ⟨by simp [ra.size], fun t => by simpa [Act.put] using rp.get t, rfl⟩ (Sat.start W) ?_
  refine cdi_region ?_
  refine oli_i (wn_none rfl) (os_alloc (cs := (nodeC Node.zero).toArray) zB_51 (by kernel_rfl)) rfl ?_; rintro _ _ ⟨bn, rfl, rfl⟩
  refine Zbq ?_
  refine oli_nil ?_
  intro a' W' ra' s'
  have hg := (s'.pull 1).grown
  exact hK a' W' ⟨hg.size, fun k o _ hk _ => (hg.block k (Array.getElem?_eq_some_iff.1 hk).1 (by simp)).trans hk⟩ (Kb.of_grown hg hIs) (RI_from W0 bx pre W W' none hI hg (fun r e => by cases e)) ⟨_, bn, ra', rfl, rfl, s'.blk, Nat.le_trans hIs (s'.ge_of_old (by simp))⟩
 case body =>
  rintro lp pre x a' W hl ⟨r, hr⟩ hI ⟨f, bn, ra', f3, f4, hbn, hge⟩ hlen
  obtain ⟨ao, c, X, hX1, hX2, sW⟩ := RI_open hI hlt1 hbn hge
  obtain ⟨_, _, sI⟩ := hI
  have hml : (pre.map (·.root)).length ≤ 256 := by rw [List.length_map]; omega
  have hA : Agree f [(3, .pointer (some ⟨bx, 0, none⟩)), (4, .pointer (some ⟨bn, 0, none⟩))] := ⟨f3, f4, trivial⟩
  refine wpIn_of_cdi (w0 := W) (n := 19) (f := upds f [(3, .pointer (some ⟨bx, 0, none⟩)), (4, .pointer (some ⟨bn, 0, none⟩))]) (by rw [upds_agree hA]; exact ra') sW ?_
  refine cdi_block ?_
  refine cdi_region ?_
  refine oli_q (wn_none rfl) (op_ld 1 sc_37 rfl rfl rfl) rfl ?_
  refine oli_q (wn_none rfl) (op_field fld_51_0 rfl) rfl ?_
  refine oli_q (wn_none rfl) (op_lda (L := rootC _) 2 ag_24 rfl rfl (nodeC_af0 _) (by simp [nodeC_len])) rfl ?_
  refine oli_i (wn_none rfl) (os_bslice (E := encRoot) [_] (ys := [_]) sB_37 zv_24 rfl rfl rfl rfl (by decide)) rfl ?_; rintro _ _ ⟨ao1, rfl, rfl⟩
  refine oli_i (wn_none rfl) (os_pull1 (os_append (E := encRoot) rfl sB_37 zv_24 rfl rfl rfl (fun w s => (rds_row 1 rfl rfl) [] w s) rfl (by simp only [List.length_cons, List.length_nil]; omega) (by unfold maxLen; simp only [List.length_cons, List.length_nil]; omega))) rfl ?_; rintro _ _ ⟨ao2, ac2, rfl, rfl⟩
  refine oli_iN (wn_none rfl) (os_pull2 (os_store (v := .slice _ _ _) sc_37 rfl rfl rfl rfl (Free.zero _) rfl)) ?_; rintro _ _ ⟨rfl, rfl⟩
  refine oli_nil ?_
  refine px_blockN ?_
  intro a2 W2 ra2 s2
  have sO := s2.pull 4
  have hnX : ∀ k, k < W0.heap.size → k ≠ bx → k ∉ X := fun k h1 h2 h3 => by
   rcases hX1 k h3 with h4 | h4
   ·exact h2 h4
   omega
  refine ⟨⟨s2.size, fun k o hB hk ho => sO.old_at (fun hkX => ?_) hk⟩, ⟨s2.size, fun k h1 h2 => ?_⟩, ao2, ac2, ?_⟩
  ·obtain ⟨cs, t', fr, h⟩ := hX2 k hkX
   rw [h] at hk; cases hk; cases ho
  ·obtain ⟨o, ho⟩ : ∃ o, W.heap[k]? = some o := ⟨_, Array.getElem?_eq_getElem (show k < W.heap.size from Nat.lt_of_lt_of_le h1 sI.size)⟩
   rw [ho]; exact sO.old_at (hnX k h1 h2) ho
  have e : (pre ++ [x]).map (·.root) = pre.map (·.root) ++ [x.root] := by rw [List.map_append]; rfl
  rw [e]
  exact Sat.rebase (((s2.pull 4).pull 2).pull 2) sI.os sI.tape sI.output sI.size fun k o h1 h2 => ⟨hnX k (Array.getElem?_eq_some_iff.1 h2).1 h1, (sI.pull 2).old_at (by simpa using h1) h2⟩
 case done =>
  rintro D ys W hD rfl ⟨ao, c, sI⟩ hKD
  have e1 := op_ld (P := Try.prog) (w0 := W0) (n := 19) (d := some 18) (ty := 37) (pos := "tree.go:118") (aft := #[]) (g := none) (x := .tmp 3) 0 sc_37 (l := [Blk bx (.cells #[.slice ao (t.nodes.map (fun x : Node => x.root)).length c] 37 (0, 0)), Row 24 encRoot (.slice ao (t.nodes.map (fun x : Node => x.root)).length c) (t.nodes.map (fun x : Node => x.root)), Old W0 [bx]]) rfl rfl rfl [] a W ra sI
  have r1 := ra.put (d := 18) rfl (.slice ao (t.nodes.map (fun x : Node => x.root)).length c)
  have r2 := r1.put (d := 2) rfl (.slice ao (t.nodes.map (fun x : Node => x.root)).length c)
  refine (wpIn_seq ?_ : Code.wpIn Fence.wide 4 _ (Code.seq _ _) _ _ _)
  refine wpIn_region_list ?_
  refine wpListIn_run rfl (by intro c h; cases h) e1 ?_
  refine wpListIn_run (v := .slice ao (t.nodes.map (fun x : Node => x.root)).length c) rfl (by intro c h; cases h) ?_ ?_
  ·exact congrArg (fun q => Result.ok (Next.value q) W) (r1.get 18)
  refine (wpIn_ret ?_ : Code.wpIn Fence.wide 4 _ .ret _ _ _)
  refine (?_ : LeavesInM Fence.wide 4 _ _ _ _ ({ target := .collected D, args := #[] } :: a.defers) .returning W)
  rw [ra.defers]
  refine ⟨by simp, .inl ⟨_, _, rfl, run_takeDeferred hKD, ?_⟩⟩
  have s4 := sI.turn (B0 := W0.heap.size) (by
   intro P hP
   simp only [List.mem_cons, List.not_mem_nil, or_false] at hP
   rcases hP with rfl | rfl | rfl
   ·exact cellish_blk
   ·exact cellish_row
   exact cellish_old) (grownBy_putObj' W D (.deferred none)) (fun r e => by cases e; exact ⟨hD, _, hKD, rfl⟩)
  have s5 := Sat.regain (s0.pull 1) (s4.drop)
  exact ⟨_, results_tmp rfl _ _ _, _, _, congrArg Ending.returned (r2.get 2), ⟨ao, c, rfl, rfl⟩, (Sat.treeMk hw rfl ((((s5.del 1).pull 3).pull 3).pull 3)).pull 1⟩
 case stop =>
  intro D c pre W _ _ h _
  exact h.elim
end Go.SL

set_option linter.unusedVariables false
set_option linter.unusedSimpArgs false
namespace Go.SL
open Go.Proofs

set_option maxRecDepth 100000 in
set_option maxHeartbeats 1000000 in
theorem PAllN_calls {w0 w : World} {l : List HProp} (p pw : Nat) (t : TreeS) (o : List Int) (r : Root) (hs : Sat w0 w ((TreeObj p t) :: (WObj pw p t.nodes o) :: l)) (hi : idxOf t.nodes r = none) :
  Calls Try.prog 16 #[.pointer (some ⟨p, 0, none⟩), .pointer (some ⟨pw, 0, none⟩), .agg (rootC r).toArray] w (Ret w0 fun v l' => v = .tuple #[.pointer none, .pointer none, .int .i64 7] ∧ l' = TreeObj p t :: WObj pw p t.nodes o :: l) := by
 refine calls_enter Try.func16 rfl rfl rfl hs ?_
 refine Zj ?_; intro bx1
 refine Zc ?_
 refine Zc ?_
 refine Z8 ?_
 refine Zg ?_
 refine Z2k ?_
 refine Z9 ?_
 refine oi (os_call cb_15 rfl (fun w s => PTreeN_calls _ _ _  s (by assumption))) ?_; rintro _ _ ⟨rfl, rfl⟩
 refine Z38 ?_
 refine Z5l ?_
 refine Z3l ?_
 refine Zc ?_
 refine Z8 ?_
 refine Zf ?_
 refine Z5c ?_
 refine cd_cond rfl (fun hb1 => ?_) (fun hb1 => ?_)
 ·have hp1 := hb1
  (try simp only [bn] at hp1)
  refine Z18 ?_
  refine Zc ?_
  refine Zc ?_
  refine Zp ?_
  refine Z13 ?_
  exact px_ret3 rfl (v1 := .pointer _) (v2 := .pointer _) (v3 := .int _ _) rfl rfl rfl (fun _ s => (s.del 1)) ⟨rfl, rfl⟩
 have hp1 := hb1
 (try simp only [bn] at hp1)
 exact absurd hb1 (by decide)

set_option maxRecDepth 100000 in
set_option maxHeartbeats 1000000 in
theorem PAllS_calls {w0 w : World} {l : List HProp} (p pw : Nat) (t : TreeS) (o : List Int) (r : Root) (a : Nat) (hs : Sat w0 w ((TreeObj p t) :: (WObj pw p t.nodes o) :: l)) (hi : idxOf t.nodes r = some a) (h1 : o.length ≤ t.nodes.length) (hok : OwnOK o) :
  Calls Try.prog 16 #[.pointer (some ⟨p, 0, none⟩), .pointer (some ⟨pw, 0, none⟩), .agg (rootC r).toArray] w (Ret w0 fun v l' => ∃ q qw, v = .tuple #[.pointer (some ⟨q, 0, none⟩), .pointer (some ⟨qw, 0, none⟩), .int .i64 0] ∧ l' = TreeObj q (prT t a) :: WObj qw q (prT t a).nodes (prO t.nodes a o) :: TreeObj p t :: WObj pw p t.nodes o :: l) := by
 have hw := hs.treeWF
 have hm1 := hw.m1; have hm2 := hw.m2; have hle := hw.le; have hne := hw.ne
 have hla := idxOf_lt hi
 have hsa := hw.sl _ (List.getElem_mem hla)
 have hsl := slA_get hla
 have hra : rtA t.nodes a = r := by obtain ⟨n, h1, h2⟩ := idxOf_some hi; unfold rtA; rw [h1]; exact h2
 have hpl : t.place r = (a : Int) := by unfold TreeS.place; rw [hi]
 have hna : t.node (t.place r) = t.nodes[a]? := by rw [hpl, TreeS.node_at]
 have hw2 := prT_wf hw hla
 have hpl2 := prT_len t a
 have hle2 := hw2.le
 have hrl := prT_roots_len t a
 have hrkl := rk_le t.nodes a t.nodes.length
 refine calls_enter Try.func16 rfl rfl rfl hs ?_
 refine Zj ?_; intro bx1
 refine Zc ?_
 refine Zc ?_
 refine Z8 ?_
 refine Zg ?_
 refine Z2k ?_
 refine Z9 ?_
 refine oi (os_call cb_15 rfl (fun w s => PTreeS_calls _ _ _ _  s (by assumption))) ?_; rintro _ _ ⟨pq1, rfl, rfl⟩
 refine Z38 ?_
 refine Z5l ?_
 refine Z3l ?_
 refine Zc ?_
 refine Z8 ?_
 refine Zf ?_
 refine Z5c ?_
 refine cd_cond rfl (fun hb1 => ?_) (fun hb1 => ?_)
 ·have hp1 := hb1
  (try simp only [bn] at hp1)
  exact absurd hb1 (by decide)
 have hp1 := hb1
 (try simp only [bn] at hp1)
 refine Za ?_
 refine Zg ?_
 refine oi (os_call cb_50 rfl (fun w s => WNew_calls _ _  s )) ?_; rintro _ _ ⟨pw2, rfl, rfl⟩
 refine Zc ?_
 refine Z19 ?_
 refine Zw ?_
 refine Z1 ?_
 refine Z1q ?_
 refine Z9 ?_
 refine oi (os_call cb_20 rfl (fun w s => Roots_calls _ _  s )) ?_; rintro _ _ ⟨ao3, ac3, rfl, rfl⟩
 refine oq (op_len_slice Try.underlying37 rfl) ?_
 refine Z1l ?_
 refine cd_imp (fun _ s => Sat.rowNil (E := encDelta) (e := 102) s) ?_
 refine cd_loop2 (α := Nat × Option Addr × Nat) [(12, 12), (14, 14), (29, 41)] (fun x => [(12, .slice x.2.1 (delP t.nodes a o x.1).length x.2.2), (29, .int .i64 (x.1 : Int))]) (fun x => Row 102 encDelta (.slice x.2.1 (delP t.nodes a o x.1).length x.2.2) (delP t.nodes a o x.1) :: _) (fun x => x.1 ≤ rk t.nodes a t.nodes.length) (fun x => rk t.nodes a t.nodes.length - x.1) (0, none, 0) (Nat.zero_le _) ⟨rfl, rfl, trivial⟩ (fun _ s => s) ?_
 rintro ⟨k, b1, d1⟩ hk f; (try dsimp only at hk ⊢)
 have hdl := delP_len t.nodes a o hk
 refine Zx ?_
 refine cd_cond rfl (fun hb2 => ?_) (fun hb2 => ?_)
 ·have hp2 := hb2
  (try simp only [bn] at hp2)
  obtain ⟨i0, hsk, hi0, hib, hik⟩ := selI_at (ns := t.nodes) (a := a) (m := t.nodes.length) (k := k) (by omega)
  refine Z33 ?_
  refine oq (op_index k sB_37 rfl rfl rfl (rds_row 1 rfl rfl) rfl (by omega)) ?_
  refine oq (op_ldaw (L := rootC _) ag_24 (rds_row 1 rfl rfl) rfl (by omega) rfl (rootC_ta _)) ?_
  refine Z1w ?_; intro bx2
  refine Z4h ?_
  refine Z1 ?_
  rw [prT_root hsk]
  refine cd_pull1 ?_
  refine cd_pull5 ?_
  refine cd_pull7 ?_
  refine cd_drawe (M := [_, _, _]) mx [4, 6, 7] ?_
  refine e_q 0 rfl (wn_none rfl) (op_move (v := .slice _ _ _) rfl) ?_
  refine Zat ?_
  refine Z8n ?_
  refine e_q 3 rfl (wn_none rfl) (op_lda (L := rootC _) 0 ag_24 rfl rfl (rootC_take' _) (by simp [rootC_len])) ?_
  refine Z2g ?_
  refine ei_i rfl rfl (wn_none rfl) (os_pull1 (os_call cb_26 rfl (fun w s => Own_calls _ _ _ _ _  s ))) rfl ?_; rintro _ _ ⟨rfl, rfl⟩; rw [ofF_rt2 hw hi0]; refine ⟨[_, _, _], rfl, ?_⟩
  refine e_q 5 rfl (wn_none rfl) (op_build (L := deltaC _) (vs := [(0, .agg (rootC _).toArray), (1, .int _ _)]) bB_102 rfl ⟨⟨by simp [Value.cells, rootC_len], by rw [deltaC_len]; rfl⟩, ⟨rfl, by rw [deltaC_len]; rfl⟩, trivial⟩ ((deltaC_b0 _ _ _).trans ((deltaC_b1 _ _ _).trans rfl))) ?_
  refine Z14 ?_
  refine ei_i rfl rfl (wn_none rfl) (os_bslice (E := encDelta) [_] (ys := [_]) sB_97 zv_102 rfl rfl rfl rfl (by decide)) rfl ?_; rintro _ _ ⟨ao1, rfl, rfl⟩; refine ⟨[_, _, _, _], rfl, ?_⟩
  refine Zt ?_
  refine ei_i rfl rfl (wn_none rfl) (os_pull3 (os_append (E := encDelta) rfl sB_97 zv_102 rfl rfl rfl (fun w s => (rds_row 1 rfl rfl) [] w s) rfl (by simp; have := rk_le t.nodes a t.nodes.length; omega) (by unfold maxLen; simp; have := rk_le t.nodes a t.nodes.length; omega))) rfl ?_; rintro _ _ ⟨ao2, ac2, rfl, rfl⟩; refine ⟨[_, _, _, _], rfl, ?_⟩
  refine e_q 8 rfl (wn_none rfl) (op_assign (v := .slice _ _ _) rfl) ?_
  refine Zaj ?_
  have eL : (delP t.nodes a o k) ++ [⟨rtA t.nodes i0, oA o i0⟩] = (delP t.nodes a o (k + 1)) := (delP_succ hsk).symm
  refine px_loop2 (k + 1, ao2, ac2) (by dsimp only; omega) (by (try dsimp only); omega) ⟨congrArg (fun q => Value.slice ao2 (List.length q) ac2) eL, congrArg (Value.int .i64) (by simp), trivial⟩ ?_ (fun _ s => by (try dsimp only); rw [← eL]; exact (((((((((s.del 4).del 1).pull 2).pull 6).pull 3).pull 6).pull 6).pull 6).pull 6))
  exact Z2
 have hp2 := hb2
 (try simp only [bn] at hp2)
 have hke : k = rk t.nodes a t.nodes.length := by omega
 refine Z1e ?_
 refine Zg ?_
 refine Zm ?_
 refine Zl ?_
 refine Zl ?_
 refine oi (os_call cb_52 rfl (fun w s => Apply_calls (o := (growO (prT t a).nodes.length [])) _ _ _ _ _ _  s (Nat.le_of_eq (growO_len (Nat.zero_le _))) (OwnOK.nil.zeros _) (rds_row 0 rfl rfl) (by rw [hdl]; have := hw.m2; have := rk_le t.nodes a t.nodes.length; omega))) ?_; rintro _ _ ⟨rfl, rfl⟩; rw [delP_all hw hla h1 hok hke]; (try dsimp only)
 refine Z1 ?_
 refine Z3i ?_
 refine Zc ?_
 refine Zc ?_
 refine Zp ?_
 exact px_ret3 rfl (v1 := .pointer _) (v2 := .pointer _) (v3 := .int _ 0) (l' := TreeObj _ (prT t a) :: WObj _ _ (prT t a).nodes (prO t.nodes a o) :: TreeObj p t :: WObj pw p t.nodes o :: l) rfl rfl rfl (fun _ s => (((s.del 5).del 3).del 2)) ⟨_, _, rfl, rfl⟩
end Go.SL

set_option linter.unusedVariables false
set_option linter.unusedSimpArgs false
namespace Go.SL
structure TabS where
  slots : Int
  latest : List (Option Vote)
  out : List Bool
  first : List ((Int × Int) × Root)
def TabS.isV (t : TabS) (who : Int) : Bool := decide (0 ≤ who) && decide (who < t.latest.length)
def TabS.take (t : TabS) (v : Vote) : Int × TabS :=
  if t.isV v.who = false ∨ v.slot < 0 ∨ 1073741824 < v.slot then (5, t)
  else if t.out.getD v.who.toNat false = true then (4, t)
  else match look t.first (v.who, v.slot / t.slots) with
    | some r => if r = v.target then (1, t) else (2, { t with out := t.out.set v.who.toNat true })
    | none =>
      match t.latest.getD v.who.toNat none with
      | some o => if v.slot / t.slots < o.slot / t.slots then (3, { t with first := ins t.first (v.who, v.slot / t.slots) v.target })
          else (0, { t with first := ins t.first (v.who, v.slot / t.slots) v.target, latest := t.latest.set v.who.toNat (some v) })
      | none => (0, { t with first := ins t.first (v.who, v.slot / t.slots) v.target, latest := t.latest.set v.who.toNat (some v) })
def TabS.vote (t : TabS) (who : Int) : Option Vote := if t.isV who = true then t.latest.getD who.toNat none else none
def TabS.counts (t : TabS) (who : Int) : Bool := t.isV who && !t.out.getD who.toNat false
def TabS.forget (t : TabS) (slot : Int) : TabS := if slot < 0 then t else { t with first := t.first.filter fun p => decide (slot / t.slots ≤ p.1.2) }
def TabS.new (n : Nat) (slots : Int) : TabS := ⟨slots, List.replicate n none, List.replicate n false, []⟩
structure TabS.WF (t : TabS) : Prop where
  s1 : 1 ≤ t.slots
  s2 : t.slots ≤ 32
  n1 : t.latest.length ≤ 64
  lo : t.out.length = t.latest.length
  nd : (t.first.map (·.1)).Nodup
  rg : ∀ p ∈ t.first, 0 ≤ p.1.1 ∧ p.1.1 < 64 ∧ 0 ≤ p.1.2 ∧ p.1.2 ≤ 1073741824
  sl : ∀ v, some v ∈ t.latest → 0 ≤ v.slot ∧ v.slot ≤ 1073741824

theorem look_none_iff {K V : Type} [DecidableEq K] {kvs : List (K × V)} {k : K} : look kvs k = none ↔ ∀ p ∈ kvs, p.1 ≠ k := by
  unfold look
  simp [List.find?_eq_none]
theorem ep_le {s k : Int} (h0 : 0 ≤ s) (hs : s ≤ 1073741824) (hk : 1 ≤ k) : 0 ≤ s / k ∧ s / k ≤ 1073741824 := by
  have h3 : s / k ≤ s := Int.ediv_le_self k h0
  have h4 : 0 ≤ s / k := Int.ediv_nonneg h0 (by omega)
  omega
theorem TabS.isV_iff {t : TabS} {w : Int} : t.isV w = true ↔ 0 ≤ w ∧ w < t.latest.length := by simp [TabS.isV]
theorem mem_set_some {l : List (Option Vote)} {i : Nat} {v x : Vote} (h : some x ∈ l.set i (some v)) : x = v ∨ some x ∈ l := by
  rcases List.mem_or_eq_of_mem_set h with h | h
  · exact .inr h
  · simp at h; exact .inl h
theorem TabS.WF.first_ins {t : TabS} (h : t.WF) {w e : Int} {r : Root} (hw : 0 ≤ w ∧ w < 64) (he : 0 ≤ e ∧ e ≤ 1073741824) (hl : look t.first (w, e) = none) :
    ((ins t.first (w, e) r).map (·.1)).Nodup ∧ ∀ p ∈ ins t.first (w, e) r, 0 ≤ p.1.1 ∧ p.1.1 < 64 ∧ 0 ≤ p.1.2 ∧ p.1.2 ≤ 1073741824 := by
  rw [ins_none hl]
  constructor
  · rw [List.map_append, List.nodup_append]
    refine ⟨h.nd, by simp, fun a ha b hb => ?_⟩
    simp at hb
    subst hb
    obtain ⟨p, hp, rfl⟩ := List.mem_map.1 ha
    exact look_none_iff.1 hl p hp
  · intro p hp
    rcases List.mem_append.1 hp with hp | hp
    · exact h.rg p hp
    · simp at hp; subst hp
      exact ⟨hw.1, hw.2, he.1, he.2⟩
theorem TabS.WF.take {t : TabS} (h : t.WF) (v : Vote) : (t.take v).2.WF := by
  unfold TabS.take
  split
  · exact h
  · rename_i hc
    split
    · exact h
    · have hv : t.isV v.who = true := by cases e : t.isV v.who <;> simp_all
      rw [TabS.isV_iff] at hv
      have hn := h.n1
      have hs0 : 0 ≤ v.slot := by
        rcases Int.lt_or_le v.slot 0 with h0 | h0
        · exact absurd (.inr (.inl h0)) hc
        · exact h0
      have hs1 : v.slot ≤ 1073741824 := by
        rcases Int.lt_or_le 1073741824 v.slot with h0 | h0
        · exact absurd (.inr (.inr h0)) hc
        · exact h0
      have he := ep_le hs0 hs1 h.s1
      split
      · split
        · exact h
        · exact { h with lo := by simp [h.lo] }
      · rename_i hl
        obtain ⟨h1, h2⟩ := h.first_ins (r := v.target) (w := v.who) ⟨hv.1, by omega⟩ he hl
        split
        · split
          · exact { h with nd := h1, rg := h2 }
          · refine { h with nd := h1, rg := h2, n1 := by simp [h.n1], lo := by simp [h.lo], sl := fun x hx => ?_ }
            rcases mem_set_some hx with rfl | hx
            · exact ⟨hs0, hs1⟩
            · exact h.sl x hx
        · refine { h with nd := h1, rg := h2, n1 := by simp [h.n1], lo := by simp [h.lo], sl := fun x hx => ?_ }
          rcases mem_set_some hx with rfl | hx
          · exact ⟨hs0, hs1⟩
          · exact h.sl x hx
theorem TabS.WF.forget {t : TabS} (h : t.WF) (s : Int) : (t.forget s).WF := by
  unfold TabS.forget
  split
  · exact h
  · exact { h with nd := h.nd.sublist ((List.filter_sublist (l := t.first)).map _), rg := fun p hp => h.rg p (List.mem_filter.1 hp).1 }
theorem TabS.WF.new {n : Nat} {s : Int} (hn : n ≤ 64) (h1 : 1 ≤ s) (h2 : s ≤ 32) : (TabS.new n s).WF :=
  ⟨h1, h2, by simpa [TabS.new] using hn, by simp [TabS.new], by simp [TabS.new], by simp [TabS.new], by simp [TabS.new]⟩
theorem TabS.take_slots (t : TabS) (v : Vote) : (t.take v).2.slots = t.slots ∧ (t.take v).2.latest.length = t.latest.length := by
  unfold TabS.take
  repeat' split
  all_goals simp
theorem TabS.forget_slots (t : TabS) (s : Int) : (t.forget s).slots = t.slots ∧ (t.forget s).latest = t.latest ∧ (t.forget s).out = t.out := by
  unfold TabS.forget
  split <;> simp
end Go.SL
set_option linter.unusedVariables false
set_option linter.unusedSimpArgs false
namespace Go.SL
theorem getD_set_self {α : Type} (l : List α) (i : Nat) (a d : α) (h : i < l.length) : (l.set i a).getD i d = a := by simp [List.getD_eq_getElem?_getD, h]
theorem getD_set_ne {α : Type} (l : List α) (i j : Nat) (a d : α) (h : i ≠ j) : (l.set i a).getD j d = l.getD j d := by simp [List.getD_eq_getElem?_getD, List.getElem?_set_ne h]
theorem bool_not_false {b : Bool} (h : ¬ b = false) : b = true := by cases b <;> simp_all
theorem bool_not_true {b : Bool} (h : ¬ b = true) : b = false := by cases b <;> simp_all
/-- the ways of a vote -/
theorem TabS.take_cases (t : TabS) (v : Vote) (h : t.WF) :
    ((t.isV v.who = false ∨ v.slot < 0 ∨ 1073741824 < v.slot) ∧ t.take v = (5, t)) ∨
    ((0 ≤ v.who ∧ v.who < t.latest.length ∧ 0 ≤ v.slot ∧ v.slot ≤ 1073741824) ∧
      ((t.out.getD v.who.toNat false = true ∧ t.take v = (4, t)) ∨
       (t.out.getD v.who.toNat false = false ∧
        ((∃ r, look t.first (v.who, v.slot / t.slots) = some r ∧ ((r = v.target ∧ t.take v = (1, t)) ∨ (r ≠ v.target ∧ t.take v = (2, { t with out := t.out.set v.who.toNat true })))) ∨
         (look t.first (v.who, v.slot / t.slots) = none ∧
          ((∃ o, t.latest.getD v.who.toNat none = some o ∧ v.slot / t.slots < o.slot / t.slots ∧ t.take v = (3, { t with first := t.first ++ [((v.who, v.slot / t.slots), v.target)] })) ∨
           ((∀ o, t.latest.getD v.who.toNat none = some o → o.slot / t.slots ≤ v.slot / t.slots) ∧ t.take v = (0, { t with first := t.first ++ [((v.who, v.slot / t.slots), v.target)], latest := t.latest.set v.who.toNat (some v) })))))))) := by
  by_cases hc : t.isV v.who = false ∨ v.slot < 0 ∨ 1073741824 < v.slot
  · left
    exact ⟨hc, by unfold TabS.take; rw [if_pos hc]⟩
  · right
    have hv : t.isV v.who = true := bool_not_false fun e => hc (.inl e)
    have h1 : ¬ v.slot < 0 := fun e => hc (.inr (.inl e))
    have h2 : ¬ 1073741824 < v.slot := fun e => hc (.inr (.inr e))
    rw [TabS.isV_iff] at hv
    refine ⟨⟨hv.1, hv.2, by omega, by omega⟩, ?_⟩
    by_cases ho : t.out.getD v.who.toNat false = true
    · exact .inl ⟨ho, by unfold TabS.take; rw [if_neg hc, if_pos ho]⟩
    · right
      refine ⟨bool_not_true ho, ?_⟩
      have e : t.take v = match look t.first (v.who, v.slot / t.slots) with
        | some r => if r = v.target then (1, t) else (2, { t with out := t.out.set v.who.toNat true })
        | none =>
          match t.latest.getD v.who.toNat none with
          | some o => if v.slot / t.slots < o.slot / t.slots then (3, { t with first := ins t.first (v.who, v.slot / t.slots) v.target })
              else (0, { t with first := ins t.first (v.who, v.slot / t.slots) v.target, latest := t.latest.set v.who.toNat (some v) })
          | none => (0, { t with first := ins t.first (v.who, v.slot / t.slots) v.target, latest := t.latest.set v.who.toNat (some v) }) := by
        conv => lhs; unfold TabS.take
        (rw [if_neg hc, if_neg ho]) <;> rfl
      rw [e]
      cases hl : look t.first (v.who, v.slot / t.slots) with
      | some r =>
        left
        refine ⟨r, rfl, ?_⟩
        by_cases hr : r = v.target
        · exact .inl ⟨hr, by simp [hr]⟩
        · exact .inr ⟨hr, by simp [hr]⟩
      | none =>
        right
        refine ⟨rfl, ?_⟩
        rw [ins_none hl]
        cases hg : t.latest.getD v.who.toNat none with
        | none => exact .inr ⟨fun o ho => (by cases ho), rfl⟩
        | some o =>
          by_cases hlt : v.slot / t.slots < o.slot / t.slots
          · exact .inl ⟨o, rfl, hlt, by simp [hlt]⟩
          · exact .inr ⟨fun o' ho' => by cases ho'; omega, by simp [hlt]⟩
theorem TabS.counts_true {t : TabS} {w : Int} : t.counts w = true ↔ t.isV w = true ∧ t.out.getD w.toNat false = false := by simp [TabS.counts]
theorem TabS.counts_false {t : TabS} {w : Int} : t.counts w = false ↔ t.isV w = false ∨ t.out.getD w.toNat false = true := by
  unfold TabS.counts
  cases t.isV w <;> cases t.out.getD w.toNat false <;> simp
theorem TabS.vote_none {t : TabS} {w : Int} (h : t.isV w = false) : t.vote w = none := by simp [TabS.vote, h]
theorem TabS.vote_at {t : TabS} {w : Int} (h : 0 ≤ w ∧ w < t.latest.length) : t.vote w = t.latest.getD w.toNat none := by
  rw [TabS.vote, if_pos (TabS.isV_iff.2 h)]
/-- once -/
theorem TabS.once (t : TabS) (v : Vote) (h : t.WF) :
    ((t.take v).2.counts v.who = true → t.counts v.who = true) ∧ ((t.take v).1 = 2 ↔ t.counts v.who = true ∧ (t.take v).2.counts v.who = false) ∧
    ((t.take v).1 = 0 → (t.take v).2.vote v.who = some v ∧ ∀ o, t.vote v.who = some o → o.slot / t.slots ≤ v.slot / t.slots) ∧ ((t.take v).1 ≠ 0 → (t.take v).2.vote v.who = t.vote v.who) := by
  rcases TabS.take_cases t v h with ⟨h1, h2⟩ | ⟨⟨h1, h2, h3, h4⟩, h5⟩
  · rw [h2]
    refine ⟨fun h => h, ⟨fun h => (by simp at h), fun ⟨a, b⟩ => ?_⟩, fun h => by simp at h, fun _ => rfl⟩
    rw [a] at b; cases b
  · have hv : t.isV v.who = true := TabS.isV_iff.2 ⟨h1, h2⟩
    have hlt : v.who.toNat < t.latest.length := by omega
    have hlo := h.lo
    rcases h5 with ⟨h6, h7⟩ | ⟨h6, ⟨r, h7, ⟨h8, h9⟩ | ⟨h8, h9⟩⟩ | ⟨h7, ⟨o, h8, h9, h10⟩ | ⟨h8, h9⟩⟩⟩
    · rw [h7]
      refine ⟨fun h => h, ⟨fun h => (by simp at h), fun ⟨a, b⟩ => ?_⟩, fun h => by simp at h, fun _ => rfl⟩
      rw [a] at b; cases b
    · rw [h9]
      refine ⟨fun h => h, ⟨fun h => (by simp at h), fun ⟨a, b⟩ => ?_⟩, fun h => by simp at h, fun _ => rfl⟩
      rw [a] at b; cases b
    · rw [h9]
      have hc : t.counts v.who = true := TabS.counts_true.2 ⟨hv, h6⟩
      refine ⟨fun _ => hc, ⟨fun _ => ⟨hc, ?_⟩, fun _ => rfl⟩, fun h => by simp at h, fun _ => rfl⟩
      rw [TabS.counts_false]
      right
      exact getD_set_self _ _ _ _ (by omega)
    · rw [h10]
      refine ⟨fun h => h, ⟨fun h => (by simp at h), fun ⟨a, b⟩ => ?_⟩, fun h => by simp at h, fun _ => rfl⟩
      have b' : t.counts v.who = false := b
      rw [a] at b'; cases b'
    · rw [h9]
      have hv' : ({ t with first := t.first ++ [((v.who, v.slot / t.slots), v.target)], latest := t.latest.set v.who.toNat (some v) } : TabS).isV v.who = t.isV v.who := by simp [TabS.isV]
      refine ⟨fun h => ?_, ⟨fun h => (by simp at h), fun ⟨a, b⟩ => ?_⟩, fun _ => ⟨?_, fun o ho => ?_⟩, fun h => by simp at h⟩
      · rw [TabS.counts_true] at h ⊢
        exact ⟨hv, h.2⟩
      · rw [TabS.counts_true] at a
        rw [TabS.counts_false] at b
        rcases b with b | b
        · rw [hv', hv] at b; cases b
        · have b' : t.out.getD v.who.toNat false = true := b
          rw [a.2] at b'; cases b'
      · rw [TabS.vote, hv', if_pos hv]
        exact getD_set_self _ _ _ _ hlt
      · rw [TabS.vote_at ⟨h1, h2⟩] at ho
        exact h8 o ho
/-- others' votes -/
structure TabS.Apart (who : Int) (a b : TabS) : Prop where
  sl : a.slots = b.slots
  ln : a.latest.length = b.latest.length
  la : 0 ≤ who → a.latest.getD who.toNat none = b.latest.getD who.toNat none
  ou : 0 ≤ who → a.out.getD who.toNat false = b.out.getD who.toNat false
  fi : ∀ e, look a.first (who, e) = look b.first (who, e)
theorem look_append_one {K V : Type} [DecidableEq K] {kvs : List (K × V)} {k k' : K} {v : V} : look (kvs ++ [(k, v)]) k' = match look kvs k' with | some x => some x | none => if k = k' then some v else none := by
  unfold look
  rw [List.find?_append]
  cases h : kvs.find? fun p => decide (p.1 = k')
  · by_cases hk : k = k' <;> simp [hk]
  · simp
theorem TabS.Apart.other {who : Int} {a b : TabS} (h : TabS.Apart who a b) (ha : a.WF) (v : Vote) (hne : v.who ≠ who) : TabS.Apart who (a.take v).2 b := by
  rcases TabS.take_cases a v ha with ⟨h1, h2⟩ | ⟨⟨h1, h2, h3, h4⟩, h5⟩
  · rw [h2]; exact h
  · have hw : 0 ≤ who → v.who.toNat ≠ who.toNat := fun h0 => by omega
    rcases h5 with ⟨h6, h7⟩ | ⟨h6, ⟨r, h7, ⟨h8, h9⟩ | ⟨h8, h9⟩⟩ | ⟨h7, ⟨o, h8, h9, h10⟩ | ⟨h8, h9⟩⟩⟩
    · rw [h7]; exact h
    · rw [h9]; exact h
    · rw [h9]; exact { h with ou := fun h0 => (getD_set_ne _ _ _ _ _ (hw h0)).trans (h.ou h0) }
    · rw [h10]
      refine { h with fi := fun e => ?_ }
      dsimp only
      rw [look_append_one, h.fi e]
      cases look b.first (who, e) <;> simp [hne]
    · rw [h9]
      refine { h with ln := (List.length_set ..).trans h.ln, la := fun h0 => (getD_set_ne _ _ _ _ _ (hw h0)).trans (h.la h0), fi := fun e => ?_ }
      dsimp only
      rw [look_append_one, h.fi e]
      cases look b.first (who, e) <;> simp [hne]
theorem look_filter {K V : Type} [DecidableEq K] {kvs : List (K × V)} {q : K × V → Bool} {g : K → Bool} (hq : ∀ p, q p = g p.1) {k : K} : look (kvs.filter q) k = if g k = true then look kvs k else none := by
  unfold look
  rw [List.find?_filter]
  by_cases hg : g k = true
  · rw [if_pos hg]
    congr 2
    funext p
    rw [hq]
    by_cases hp : p.1 = k
    · simp [hp, hg]
    · simp [hp]
  · rw [if_neg hg]
    rw [Option.map_eq_none_iff, List.find?_eq_none]
    intro p _
    rw [hq]
    intro hp
    simp at hp
    exact hg (hp.2 ▸ hp.1)
theorem TabS.Apart.forget {who : Int} {a b : TabS} (h : TabS.Apart who a b) (s : Int) : TabS.Apart who (a.forget s) (b.forget s) := by
  unfold TabS.forget
  split
  · exact h
  · refine { h with fi := fun e => ?_ }
    dsimp only
    rw [look_filter (g := fun k : Int × Int => decide (s / a.slots ≤ k.2)) (fun p => rfl), look_filter (g := fun k : Int × Int => decide (s / b.slots ≤ k.2)) (fun p => rfl), h.fi e, h.sl]
theorem TabS.Apart.start (who : Int) (t : TabS) : TabS.Apart who t t := ⟨rfl, rfl, fun _ => rfl, fun _ => rfl, fun _ => rfl⟩
/-- where in its epoch a slot is -/
def SameEp (k : Int) : Option Vote → Option Vote → Prop
  | none, none => True
  | some x, some y => x.slot / k = y.slot / k
  | _, _ => False
structure TabS.Eps (a b : TabS) : Prop where
  sl : a.slots = b.slots
  ou : a.out = b.out
  fi : a.first = b.first
  ln : a.latest.length = b.latest.length
  la : ∀ i, SameEp a.slots (a.latest.getD i none) (b.latest.getD i none)
theorem TabS.Eps.start (t : TabS) : TabS.Eps t t := ⟨rfl, rfl, rfl, rfl, fun i => by cases t.latest.getD i none <;> simp [SameEp]⟩
theorem SameEp.refl (k : Int) (x : Option Vote) : SameEp k x x := by cases x <;> simp [SameEp]
theorem ep_round (s k : Int) (hk : 1 ≤ k) : (s - s % k) / k = s / k := by
  have h1 : s - s % k = k * (s / k) := by have := Int.emod_add_mul_ediv s k; omega
  rw [h1, Int.mul_ediv_cancel_left _ (by omega)]
theorem ep_round_rg {s k : Int} (h0 : 0 ≤ s) (hk : 1 ≤ k) : 0 ≤ s - s % k ∧ s - s % k ≤ s := by
  have h1 : s - s % k = k * (s / k) := by have := Int.emod_add_mul_ediv s k; omega
  have h2 : 0 ≤ s / k := Int.ediv_nonneg h0 (by omega)
  have h3 := Int.emod_nonneg s (show k ≠ 0 by omega)
  have h4 : 0 ≤ k * (s / k) := Int.mul_nonneg (by omega) h2
  omega
theorem TabS.Eps.step {a b : TabS} (h : TabS.Eps a b) (ha : a.WF) (hb : b.WF) (v : Vote) (h0 : 0 ≤ v.slot) (h1 : v.slot ≤ 1073741824) :
    TabS.Eps (a.take v).2 (b.take { v with slot := v.slot - v.slot % a.slots }).2 ∧ (a.take v).1 = (b.take { v with slot := v.slot - v.slot % a.slots }).1 := by
  have hlen := h.ln
  have la := ha.lo
  have lb := hb.lo
  have hr := ep_round v.slot a.slots ha.s1
  have hg := ep_round_rg (k := a.slots) h0 ha.s1
  generalize hv' : ({ v with slot := v.slot - v.slot % a.slots } : Vote) = v'
  have e1 : v'.who = v.who := by rw [← hv']
  have e2 : v'.target = v.target := by rw [← hv']
  have e3 : v'.slot / b.slots = v.slot / a.slots := by rw [← hv', ← h.sl]; exact hr
  have e4 : 0 ≤ v'.slot ∧ v'.slot ≤ 1073741824 := by rw [← hv']; dsimp only; omega
  have hla := h.la v.who.toNat
  rcases TabS.take_cases a v ha with ⟨h1', h2⟩ | ⟨⟨g1, g2, g3, g4⟩, h5⟩
  · have h3 : b.take v' = (5, b) := by
      unfold TabS.take
      rw [if_pos]
      left
      rcases h1' with h1' | h1' | h1'
      · simpa [TabS.isV, hlen, e1] using h1'
      · omega
      · omega
    rw [h2, h3]
    exact ⟨h, rfl⟩
  · rcases TabS.take_cases b v' hb with ⟨q1, q2⟩ | ⟨⟨q1, q2, q3, q4⟩, q5⟩
    · exfalso
      rcases q1 with q1 | q1 | q1
      · rw [TabS.isV_iff.2 ⟨by omega, by omega⟩] at q1; cases q1
      · omega
      · omega
    · rw [e1, e2, e3] at q5
      rw [← h.ou, ← h.fi] at q5
      have fin : TabS.Eps { a with first := a.first ++ [((v.who, v.slot / a.slots), v.target)] } { b with first := a.first ++ [((v.who, v.slot / a.slots), v.target)], out := a.out } := { h with ou := rfl, fi := rfl }
      have fin2 : TabS.Eps { a with first := a.first ++ [((v.who, v.slot / a.slots), v.target)], latest := a.latest.set v.who.toNat (some v) } { b with first := a.first ++ [((v.who, v.slot / a.slots), v.target)], out := a.out, latest := b.latest.set v.who.toNat (some v') } :=
by
        refine { h with ou := rfl, fi := rfl, ln := by simp [hlen], la := fun i => ?_ }
        dsimp only
        by_cases hi : v.who.toNat = i
        · subst hi
          rw [getD_set_self _ _ _ _ (by omega), getD_set_self _ _ _ _ (by omega)]
          show v.slot / a.slots = v'.slot / a.slots
          rw [h.sl, e3, h.sl]
        · rw [getD_set_ne _ _ _ _ _ hi, getD_set_ne _ _ _ _ _ hi]
          exact h.la i
      have hbo : b.out = a.out := h.ou.symm
      have hbf : b.first = a.first := h.fi.symm
      rcases h5 with ⟨h6, h7⟩ | ⟨h6, ⟨r, h7, ⟨h8, h9⟩ | ⟨h8, h9⟩⟩ | ⟨h7, ⟨o, h8, h9, h10⟩ | ⟨h8, h9⟩⟩⟩ <;>
      rcases q5 with ⟨q6, q7⟩ | ⟨q6, ⟨r', q7, ⟨q8, q9⟩ | ⟨q8, q9⟩⟩ | ⟨q7, ⟨o', q8, q9, q10⟩ | ⟨q8, q9⟩⟩⟩
      all_goals first
        | (exfalso; rw [q6] at h6; cases h6; done)
        | (exfalso; rw [q7] at h7; cases h7; done)
        | (exfalso; rw [q7] at h7; cases h7; contradiction)
        | (exfalso; rw [h8] at hla; cases hy : b.latest.getD v.who.toNat none with
            | none => rw [hy] at hla; exact hla
            | some y => rw [hy] at hla; have h11 := q8 y hy; have h12 : o.slot / a.slots = y.slot / a.slots := hla; rw [← h.sl] at h11; omega)
        | (exfalso; rw [q8] at hla; cases hy : a.latest.getD v.who.toNat none with
            | none => rw [hy] at hla; exact hla
            | some y => rw [hy] at hla; have h11 := h8 y hy; have h12 : y.slot / a.slots = o'.slot / a.slots := hla; rw [← h.sl] at q9; omega)
        | (rw [h7, q7]; exact ⟨h, rfl⟩)
        | (rw [h9, q9]; exact ⟨h, rfl⟩)
        | (rw [h9, q9]; exact ⟨{ h with ou := rfl, fi := rfl }, rfl⟩)
        | (rw [h10, q10]; exact ⟨fin, rfl⟩)
        | (rw [h9, q9]; exact ⟨fin2, rfl⟩)
theorem TabS.forget_ends (t : TabS) (s w : Int) : (t.forget s).vote w = t.vote w ∧ (t.forget s).counts w = t.counts w := by
  obtain ⟨h1, h2, h3⟩ := t.forget_slots s
  simp [TabS.vote, TabS.counts, TabS.isV, h2, h3]
/-- in whatever order -/
def TabS.all (t : TabS) : List Vote → TabS
  | [] => t
  | v :: r => TabS.all (t.take v).2 r
theorem TabS.all_append (t : TabS) (x y : List Vote) : t.all (x ++ y) = (t.all x).all y := by
  induction x generalizing t with
  | nil => rfl
  | cons v r ih => exact ih _
def Ok (n : Nat) (v : Vote) : Prop := 0 ≤ v.who ∧ v.who < n ∧ 0 ≤ v.slot ∧ v.slot ≤ 1073741824
structure SeesW (k : Int) (V : Vote → Prop) (o : Bool) (f : Int → Option Root) (l : Option Vote) : Prop where
  ou : o = true ↔ ∃ x y, V x ∧ V y ∧ x.slot / k = y.slot / k ∧ x.target ≠ y.target
  fi : o = false → ∀ e r, f e = some r ↔ ∃ x, V x ∧ x.slot / k = e ∧ x.target = r
  ha : l = none ↔ ∀ x, ¬ V x
  la : o = false → ∀ y, l = some y → V y ∧ ∀ x, V x → x.slot / k ≤ y.slot / k
theorem SeesW.congr {k : Int} {V V' : Vote → Prop} {o : Bool} {f f' : Int → Option Root} {l : Option Vote} (h : SeesW k V o f l) (hV : ∀ x, V x ↔ V' x) (hf : ∀ e, f e = f' e) : SeesW k V' o f' l := by
  have hV' : V = V' := funext fun x => propext (hV x)
  have hf' : f = f' := funext hf
  subst hV' hf'
  exact h
theorem SeesW.one {k : Int} {V : Vote → Prop} {o o' : Bool} {f f' : Int → Option Root} {l l' : Option Vote} (h : SeesW k V o f l) (h' : SeesW k V o' f' l') :
    o = o' ∧ l.isSome = l'.isSome ∧ (o = false → ∀ y y', l = some y → l' = some y' → y.slot / k = y'.slot / k ∧ y.target = y'.target) := by
  have e1 : o = o' := by rw [Bool.eq_iff_iff, h.ou, h'.ou]
  refine ⟨e1, ?_, fun ho y y' hy hy' => ?_⟩
  · have := h.ha.trans h'.ha.symm
    cases l <;> cases l' <;> simp_all
  · obtain ⟨a1, a2⟩ := h.la ho y hy
    obtain ⟨b1, b2⟩ := h'.la (e1 ▸ ho) y' hy'
    have e2 : y.slot / k = y'.slot / k := Int.le_antisymm (b2 y a1) (a2 y' b1)
    refine ⟨e2, Classical.byContradiction fun hne => ?_⟩
    have := h.ou.2 ⟨y, y', a1, b1, e2, hne⟩
    rw [ho] at this; cases this
def TabS.Sees (vs : List Vote) (t : TabS) : Prop := t.WF ∧ ∀ w : Int, 0 ≤ w → w < t.latest.length → SeesW t.slots (fun x => x ∈ vs ∧ Ok t.latest.length x ∧ x.who = w) (t.out.getD w.toNat false) (fun e => look t.first (w, e)) (t.latest.getD w.toNat none)
theorem TabS.Sees.new {n : Nat} {s : Int} (hn : n ≤ 64) (h1 : 1 ≤ s) (h2 : s ≤ 32) : (TabS.new n s).Sees [] := by
  refine ⟨TabS.WF.new hn h1 h2, fun w hw hl => ?_⟩
  have hl' : w < n := by simpa [TabS.new] using hl
  have e1 : (TabS.new n s).out.getD w.toNat false = false := by simp [TabS.new, List.getD_eq_getElem?_getD, List.getElem?_replicate]; split <;> rfl
  have e2 : (TabS.new n s).latest.getD w.toNat none = none := by simp [TabS.new, List.getD_eq_getElem?_getD, List.getElem?_replicate]; split <;> rfl
  rw [e1, e2]
  exact ⟨by simp, fun _ e r => by simp [TabS.new, look], by simp, fun _ y hy => by cases hy⟩
theorem SeesW.skip {k : Int} {vs : List Vote} {n : Nat} {w : Int} {v : Vote} {o : Bool} {f : Int → Option Root} {l : Option Vote} (h : SeesW k (fun x => x ∈ vs ∧ Ok n x ∧ x.who = w) o f l) (hv : ¬ (Ok n v ∧ v.who = w)) : SeesW k (fun x => x ∈ vs ++ [v] ∧ Ok n x ∧ x.who = w) o f l :=
  h.congr (fun x => by
    simp only [List.mem_append, List.mem_singleton]
    constructor
    · rintro ⟨a, b⟩; exact ⟨.inl a, b⟩
    · rintro ⟨a | a, b⟩
      · exact ⟨a, b⟩
      · subst a; exact absurd b hv) fun _ => rfl
theorem TabS.Sees.take {vs : List Vote} {t : TabS} (h : t.Sees vs) (v : Vote) : (t.take v).2.Sees (vs ++ [v]) := by
  obtain ⟨hw, hs⟩ := h
  refine ⟨hw.take v, fun w h0 hl => ?_⟩
  obtain ⟨es, el⟩ := t.take_slots v
  rw [el] at hl ⊢
  rw [es]
  have hsw := hs w h0 hl
  have hlo := hw.lo
  rcases TabS.take_cases t v hw with ⟨h1, h2⟩ | ⟨⟨h1, h2, h3, h4⟩, h5⟩
  · rw [h2]
    refine hsw.skip fun ⟨ho, _⟩ => ?_
    rcases h1 with h1 | h1 | h1
    · rw [TabS.isV_iff.2 ⟨ho.1, ho.2.1⟩] at h1; cases h1
    · have := ho.2.2.1; omega
    · have := ho.2.2.2; omega
  · have hok : Ok t.latest.length v := ⟨h1, h2, h3, h4⟩
    by_cases hwho : v.who = w
    · subst hwho
      obtain ⟨V, hV⟩ : ∃ V : Vote → Prop, V = fun x => x ∈ vs ∧ Ok t.latest.length x ∧ x.who = v.who := ⟨_, rfl⟩
      rw [← hV] at hsw
      have hmem : ∀ x, (x ∈ vs ++ [v] ∧ Ok t.latest.length x ∧ x.who = v.who) ↔ (V x ∨ x = v) := fun x => by
        rw [hV]
        simp only [List.mem_append, List.mem_singleton]
        constructor
        · rintro ⟨a | a, b⟩
          · exact .inl ⟨a, b⟩
          · exact .inr a
        · rintro (⟨a, b⟩ | a)
          · exact ⟨.inl a, b⟩
          · subst a; exact ⟨.inr rfl, hok, rfl⟩
      refine SeesW.congr (V := fun x => V x ∨ x = v) ?_ (fun x => (hmem x).symm) (fun _ => rfl)
      clear hmem hV
      generalize hk : t.slots = k at *
      have hlt : v.who.toNat < t.latest.length := by omega
      have hla : ∀ {x}, V x → t.latest.getD v.who.toNat none ≠ none := fun hx e => hsw.ha.1 e _ hx
      rcases h5 with ⟨h6, h7⟩ | ⟨h6, ⟨r, h7, ⟨h8, h9⟩ | ⟨h8, h9⟩⟩ | ⟨h7, ⟨o, h8, h9, h10⟩ | ⟨h8, h9⟩⟩⟩
      · rw [h7, h6]
        obtain ⟨x, y, hx, hy, hxy⟩ := hsw.ou.1 h6
        refine ⟨⟨fun _ => ⟨x, y, .inl hx, .inl hy, hxy⟩, fun _ => rfl⟩, fun h => (by cases h), ?_, fun h => (by cases h)⟩
        exact ⟨fun e => absurd e (hla hx), fun e => absurd (.inl hx) (e x)⟩
      · subst h8
        rw [h9, h6]
        obtain ⟨x0, hx0, he0, ht0⟩ := (hsw.fi h6 _ _).1 h7
        have hno : ∀ x, V x → x.slot / k = v.slot / k → x.target = v.target := fun x hx he => by
          have := (hsw.fi h6 (v.slot / k) x.target).2 ⟨x, hx, he, rfl⟩
          rw [h7] at this; exact (Option.some.inj this).symm
        refine ⟨⟨fun h => (by cases h), ?_⟩, fun _ e r => ?_, ⟨fun e => absurd e (hla hx0), fun e => absurd (.inl hx0) (e x0)⟩, fun _ y hy => ?_⟩
        · rintro ⟨x, y, hx, hy, he, hne⟩
          exfalso
          rcases hx with hx | rfl <;> rcases hy with hy | rfl
          · have := hsw.ou.2 ⟨x, y, hx, hy, he, hne⟩
            rw [h6] at this; cases this
          · exact hne (hno x hx he)
          · exact hne (hno y hy he.symm).symm
          · exact hne rfl
        · rw [hsw.fi h6]
          constructor
          · rintro ⟨x, hx, hxx⟩; exact ⟨x, .inl hx, hxx⟩
          · rintro ⟨x, hx | rfl, hxx⟩
            · exact ⟨x, hx, hxx⟩
            · exact ⟨x0, hx0, he0.trans hxx.1, ht0.trans hxx.2⟩
        · obtain ⟨a, b⟩ := hsw.la h6 y hy
          refine ⟨.inl a, fun x hx => ?_⟩
          rcases hx with hx | rfl
          · exact b x hx
          · rw [← he0]; exact b x0 hx0
      · rw [h9]
        obtain ⟨x0, hx0, he0, ht0⟩ := (hsw.fi h6 _ _).1 h7
        dsimp only
        rw [getD_set_self _ _ _ _ (by omega)]
        exact ⟨⟨fun _ => ⟨x0, v, .inl hx0, .inr rfl, he0, fun e => h8 (ht0.symm.trans e)⟩, fun _ => rfl⟩, fun h => (by cases h), ⟨fun e => absurd e (hla hx0), fun e => absurd (.inl hx0) (e x0)⟩, fun h => (by cases h)⟩
      all_goals
        have hno : ∀ x, V x → x.slot / k ≠ v.slot / k := fun x hx he => by
          have := (hsw.fi h6 (v.slot / k) x.target).2 ⟨x, hx, he, rfl⟩
          rw [h7] at this; cases this
        have hou : (false : Bool) = true ↔ ∃ x y, (V x ∨ x = v) ∧ (V y ∨ y = v) ∧ x.slot / k = y.slot / k ∧ x.target ≠ y.target := by
          refine ⟨fun h => (by cases h), ?_⟩
          rintro ⟨x, y, hx, hy, he, hne⟩
          exfalso
          rcases hx with hx | rfl <;> rcases hy with hy | rfl
          · have := hsw.ou.2 ⟨x, y, hx, hy, he, hne⟩
            rw [h6] at this; cases this
          · exact hno x hx he
          · exact hno y hy he.symm
          · exact hne rfl
        have hfi : ∀ e r, look (t.first ++ [((v.who, v.slot / k), v.target)]) (v.who, e) = some r ↔ ∃ x, (V x ∨ x = v) ∧ x.slot / k = e ∧ x.target = r := fun e r => by
          rw [look_append_one]
          by_cases he : v.slot / k = e
          · subst he
            rw [h7]
            simp only [if_true, Option.some.injEq]
            constructor
            · intro h; exact ⟨v, .inr rfl, rfl, h⟩
            · rintro ⟨x, hx | rfl, h1, h2⟩
              · exact absurd h1 (hno x hx)
              · exact h2
          · have hf := hsw.fi h6 e r
            cases hl : look t.first (v.who, e) with
            | some r' =>
              rw [hl] at hf
              dsimp only
              rw [hf]
              constructor
              · rintro ⟨x, hx, h⟩; exact ⟨x, .inl hx, h⟩
              · rintro ⟨x, hx | rfl, h⟩
                · exact ⟨x, hx, h⟩
                · exact absurd h.1 he
            | none =>
              rw [hl] at hf
              dsimp only
              rw [if_neg (by simpa using he), hf]
              constructor
              · rintro ⟨x, hx, h⟩; exact ⟨x, .inl hx, h⟩
              · rintro ⟨x, hx | rfl, h⟩
                · exact ⟨x, hx, h⟩
                · exact absurd h.1 he
      · rw [h10]
        dsimp only
        rw [h6, h8]
        obtain ⟨a, b⟩ := hsw.la h6 o h8
        refine ⟨hou, fun _ => hfi, ⟨fun e => by (cases e), fun e => absurd (.inr rfl) (e v)⟩, fun _ y hy => ?_⟩
        cases hy
        refine ⟨.inl a, fun x hx => ?_⟩
        rcases hx with hx | rfl
        · exact b x hx
        · exact Int.le_of_lt h9
      · rw [h9]
        dsimp only
        rw [h6, getD_set_self _ _ _ _ hlt]
        refine ⟨hou, fun _ => hfi, ⟨fun e => by (cases e), fun e => absurd (.inr rfl) (e v)⟩, fun _ y hy => ?_⟩
        cases hy
        refine ⟨.inr rfl, fun x hx => ?_⟩
        rcases hx with hx | rfl
        · cases hg : t.latest.getD v.who.toNat none with
          | none => exact absurd hg (hla hx)
          | some o => exact Int.le_trans ((hsw.la h6 o hg).2 x hx) (h8 o hg)
        · exact Int.le_refl _
    · have hne : v.who.toNat ≠ w.toNat := by omega
      have hlk : ∀ e, look (t.first ++ [((v.who, v.slot / t.slots), v.target)]) (w, e) = look t.first (w, e) := fun e => by
        rw [look_append_one]
        cases look t.first (w, e) <;> simp [hwho]
      refine SeesW.skip (v := v) ?_ fun ⟨_, e⟩ => hwho e
      rcases h5 with ⟨h6, h7⟩ | ⟨h6, ⟨r, h7, ⟨h8, h9⟩ | ⟨h8, h9⟩⟩ | ⟨h7, ⟨o, h8, h9, h10⟩ | ⟨h8, h9⟩⟩⟩
      · rw [h7]; exact hsw
      · rw [h9]; exact hsw
      · rw [h9]; dsimp only; rw [getD_set_ne _ _ _ _ _ hne]; exact hsw
      · rw [h10]; dsimp only; exact hsw.congr (fun _ => Iff.rfl) fun e => (hlk e).symm
      · rw [h9]; dsimp only; rw [getD_set_ne _ _ _ _ _ hne]; exact hsw.congr (fun _ => Iff.rfl) fun e => (hlk e).symm
/-- the rows that TableOrder turns -/
def turned {α : Type} (L : List α) (k : Nat) (i : Nat) : Nat := L.length - 1 - (i + k) % L.length
def turnedTo (L : List Vote) (k : Nat) (m : Nat) : List Vote := (List.range m).map fun i => L.getD (turned L k i) Vote.zero
theorem TabS.Sees.all {t : TabS} {vs : List Vote} (h : t.Sees vs) (xs : List Vote) : (t.all xs).Sees (vs ++ xs) := by
  induction xs generalizing t vs with
  | nil => simpa [TabS.all] using h
  | cons v r ih => have := ih (h.take v); simpa [TabS.all] using this
end Go.SL


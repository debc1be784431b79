import Derived.Test.YtdeemlgkckpedaaPrn
import Derived.Test.YtdeemlgkckpedaaRoots
set_option linter.unusedVariables false
set_option linter.unusedSimpArgs false
namespace Go.SL
open Go.Proofs

set_option maxRecDepth 100000 in
set_option maxHeartbeats 1000000 in
theorem PAllN_calls {w0 w : World} {l : List HProp} (p pw : Nat) (t : TreeS) (o : List Int) (r : Root) (hs : Sat w0 w ((TreeObj p t) :: (WObj pw p t.nodes o) :: l)) (hi : idxOf t.nodes r = none) :
  Calls Try.prog 16 #[.pointer (some ⟨p, 0, none⟩), .pointer (some ⟨pw, 0, none⟩), .agg (rootC r).toArray] w (Ret w0 fun v l' => v = .tuple #[.pointer none, .pointer none, .int .i64 7] ∧ l' = TreeObj p t :: WObj pw p t.nodes o :: l) := by
 refine calls_enter Try.func16 rfl rfl rfl hs ?_
 refine cd_sr ?_
 refine oi (os_boxa rfl) ?_; rintro _ _ ⟨bx1, rfl, rfl⟩
 refine oq (op_assign (v := .pointer _) rfl) ?_
 refine oq (op_assign (v := .pointer _) rfl) ?_
 refine oq (op_assign (v := .int _ _) rfl) ?_
 refine ol_nil_then ?_
 refine cd_sr ?_
 refine oq (op_move (v := .pointer _) rfl) ?_
 refine oq (op_lda (L := rootC _) 0 ag_24 rfl rfl (rootC_take' _) (by simp [rootC_len])) ?_
 refine ol_pull1 ?_
 refine oi (os_call cb_15 rfl (fun w s => PTreeN_calls _ _ _  s (by assumption))) ?_; rintro _ _ ⟨rfl, rfl⟩
 refine oq (op_move (v := .tuple _) rfl) ?_
 refine oq (op_extract (v := .pointer _) rfl rfl) ?_
 refine oq (op_extract (v := .int _ _) rfl rfl) ?_
 refine oq (op_assign (v := .pointer _) rfl) ?_
 refine oq (op_assign (v := .int _ _) rfl) ?_
 refine ol_nil_then ?_
 refine cd_seq ?_
 refine cd_sr ?_
 refine oq (op_move (v := .int _ _) rfl) ?_
 refine oq (op_ne rfl rfl) ?_
 refine ol_nil_then ?_
 refine cd_cond rfl (fun hb1 => ?_) (fun hb1 => ?_)
 ·have hp1 := hb1
  (try simp only [bn] at hp1)
  refine cd_sr ?_
  refine oq (op_move (v := .int _ _) rfl) ?_
  refine oq (op_assign (v := .pointer _) rfl) ?_
  refine oq (op_assign (v := .pointer _) rfl) ?_
  refine oq (op_assign (v := .int _ _) rfl) ?_
  refine ol_nil_then ?_
  refine cd_ret ?_
  refine px_thenR ?_
  exact px_ret3 rfl (v1 := .pointer _) (v2 := .pointer _) (v3 := .int _ _) rfl rfl rfl (fun _ s => (s.del 1)) ⟨rfl, rfl⟩
 ·have hp1 := hb1
  (try simp only [bn] at hp1)
  exact absurd hb1 (by decide)

set_option maxRecDepth 100000 in
set_option maxHeartbeats 1000000 in
theorem PAllN_nil {w0 w : World} {l : List HProp} (v1 : Value) (r : Root) (hs : Sat w0 w (l))  :
  Calls Try.prog 16 #[.pointer none, v1, .agg (rootC r).toArray] w (Ret w0 fun v l' => v = .tuple #[.pointer none, .pointer none, .int .i64 2] ∧ l' = l) := by
 refine calls_enter Try.func16 rfl rfl rfl hs ?_
 refine cd_sr ?_
 refine oi (os_boxa rfl) ?_; rintro _ _ ⟨bx1, rfl, rfl⟩
 refine oq (op_assign (v := .pointer _) rfl) ?_
 refine oq (op_assign (v := .pointer _) rfl) ?_
 refine oq (op_assign (v := .int _ _) rfl) ?_
 refine ol_nil_then ?_
 refine cd_sr ?_
 refine oq (op_move (v := .pointer _) rfl) ?_
 refine oq (op_lda (L := rootC _) 0 ag_24 rfl rfl (rootC_take' _) (by simp [rootC_len])) ?_
 refine oi (os_call cb_15 rfl (fun w s => PTreeN_nil _  s )) ?_; rintro _ l ⟨rfl, rfl⟩
 refine oq (op_move (v := .tuple _) rfl) ?_
 refine oq (op_extract (v := .pointer _) rfl rfl) ?_
 refine oq (op_extract (v := .int _ _) rfl rfl) ?_
 refine oq (op_assign (v := .pointer _) rfl) ?_
 refine oq (op_assign (v := .int _ _) rfl) ?_
 refine ol_nil_then ?_
 refine cd_seq ?_
 refine cd_sr ?_
 refine oq (op_move (v := .int _ _) rfl) ?_
 refine oq (op_ne rfl rfl) ?_
 refine ol_nil_then ?_
 refine cd_cond rfl (fun hb1 => ?_) (fun hb1 => ?_)
 ·have hp1 := hb1
  (try simp only [bn] at hp1)
  refine cd_sr ?_
  refine oq (op_move (v := .int _ _) rfl) ?_
  refine oq (op_assign (v := .pointer _) rfl) ?_
  refine oq (op_assign (v := .pointer _) rfl) ?_
  refine oq (op_assign (v := .int _ _) rfl) ?_
  refine ol_nil_then ?_
  refine cd_ret ?_
  refine px_thenR ?_
  exact px_ret3 rfl (v1 := .pointer _) (v2 := .pointer _) (v3 := .int _ _) rfl rfl rfl (fun _ s => (s.del 0)) ⟨rfl, rfl⟩
 ·have hp1 := hb1
  (try simp only [bn] at hp1)
  exact absurd hb1 (by decide)

set_option maxRecDepth 100000 in
set_option maxHeartbeats 1000000 in
theorem PAllS_calls {w0 w : World} {l : List HProp} (p pw : Nat) (t : TreeS) (o : List Int) (r : Root) (a : Nat) (hs : Sat w0 w ((TreeObj p t) :: (WObj pw p t.nodes o) :: l)) (hi : idxOf t.nodes r = some a) (h1 : o.length ≤ t.nodes.length) (hok : OwnOK o) :
  Calls Try.prog 16 #[.pointer (some ⟨p, 0, none⟩), .pointer (some ⟨pw, 0, none⟩), .agg (rootC r).toArray] w (Ret w0 fun v l' => ∃ q qw, v = .tuple #[.pointer (some ⟨q, 0, none⟩), .pointer (some ⟨qw, 0, none⟩), .int .i64 0] ∧ l' = TreeObj q (prT t a) :: WObj qw q (prT t a).nodes (prO t.nodes a o) :: TreeObj p t :: WObj pw p t.nodes o :: l) := by
 have hw := hs.treeWF
 have hm1 := hw.m1; have hm2 := hw.m2; have hle := hw.le; have hne := hw.ne
 have hla := idxOf_lt hi
 have hsa := hw.sl _ (List.getElem_mem hla)
 have hsl := slA_get hla
 have hra : rtA t.nodes a = r := by obtain ⟨n, h1, h2⟩ := idxOf_some hi; unfold rtA; rw [h1]; exact h2
 have hpl : t.place r = (a : Int) := by unfold TreeS.place; rw [hi]
 have hna : t.node (t.place r) = t.nodes[a]? := by rw [hpl, TreeS.node_at]
 have hw2 := prT_wf hw hla
 have hpl2 := prT_len t a
 have hle2 := hw2.le
 have hrl := prT_roots_len t a
 have hrkl := rk_le t.nodes a t.nodes.length
 refine calls_enter Try.func16 rfl rfl rfl hs ?_
 refine cd_sr ?_
 refine oi (os_boxa rfl) ?_; rintro _ _ ⟨bx1, rfl, rfl⟩
 refine oq (op_assign (v := .pointer _) rfl) ?_
 refine oq (op_assign (v := .pointer _) rfl) ?_
 refine oq (op_assign (v := .int _ _) rfl) ?_
 refine ol_nil_then ?_
 refine cd_sr ?_
 refine oq (op_move (v := .pointer _) rfl) ?_
 refine oq (op_lda (L := rootC _) 0 ag_24 rfl rfl (rootC_take' _) (by simp [rootC_len])) ?_
 refine ol_pull1 ?_
 refine oi (os_call cb_15 rfl (fun w s => PTreeS_calls _ _ _ _  s (by assumption))) ?_; rintro _ _ ⟨pq1, rfl, rfl⟩
 refine oq (op_move (v := .tuple _) rfl) ?_
 refine oq (op_extract (v := .pointer _) rfl rfl) ?_
 refine oq (op_extract (v := .int _ _) rfl rfl) ?_
 refine oq (op_assign (v := .pointer _) rfl) ?_
 refine oq (op_assign (v := .int _ _) rfl) ?_
 refine ol_nil_then ?_
 refine cd_seq ?_
 refine cd_sr ?_
 refine oq (op_move (v := .int _ _) rfl) ?_
 refine oq (op_ne rfl rfl) ?_
 refine ol_nil_then ?_
 refine cd_cond rfl (fun hb1 => ?_) (fun hb1 => ?_)
 ·have hp1 := hb1
  (try simp only [bn] at hp1)
  exact absurd hb1 (by decide)
 ·have hp1 := hb1
  (try simp only [bn] at hp1)
  refine cd_skip ?_
  refine px_then ?_
  refine cd_sr ?_
  refine oq (op_move (v := .pointer _) rfl) ?_
  refine oi (os_call cb_50 rfl (fun w s => WNew_calls _ _  s )) ?_; rintro _ _ ⟨pw2, rfl, rfl⟩
  refine oq (op_assign (v := .pointer _) rfl) ?_
  refine ol_nil_then ?_
  refine cd_sr ?_
  refine oq (op_assign (v := .slice _ _ _) rfl) ?_
  refine ol_nil_then ?_
  refine cd_seq ?_
  refine cd_sr ?_
  refine oq (op_move (v := .pointer _) rfl) ?_
  refine ol_pull1 ?_
  refine oi (os_call cb_20 rfl (fun w s => Roots_calls _ _  s )) ?_; rintro _ _ ⟨ao3, ac3, rfl, rfl⟩
  refine oq (op_len_slice Try.underlying37 rfl) ?_
  refine oq (op_move (v := .int _ _) rfl) ?_
  refine ol_nil_then ?_
  refine cd_block ?_
  refine cd_imp (fun _ s => Sat.rowNil (E := encDelta) (e := 102) s) ?_
  refine cd_loop2 (α := Nat × Option Addr × Nat) [(12, 12), (14, 14), (29, 41)] (fun x => [(12, .slice x.2.1 (delP t.nodes a o x.1).length x.2.2), (29, .int .i64 (x.1 : Int))]) (fun x => Row 102 encDelta (.slice x.2.1 (delP t.nodes a o x.1).length x.2.2) (delP t.nodes a o x.1) :: _) (fun x => x.1 ≤ rk t.nodes a t.nodes.length) (fun x => rk t.nodes a t.nodes.length - x.1) (0, none, 0) (Nat.zero_le _) ⟨rfl, rfl, trivial⟩ (fun _ s => s) ?_
  rintro ⟨k, b1, d1⟩ hk f; (try dsimp only at hk ⊢)
  have hdl := delP_len t.nodes a o hk
  refine cd_sr ?_
  refine oq (op_lt rfl rfl) ?_
  refine ol_nil_then ?_
  refine cd_seq ?_
  refine cd_cond rfl (fun hb2 => ?_) (fun hb2 => ?_)
  ·have hp2 := hb2
   (try simp only [bn] at hp2)
   obtain ⟨i0, hsk, hi0, hib, hik⟩ := selI_at (ns := t.nodes) (a := a) (m := t.nodes.length) (k := k) (by omega)
   refine cd_skip ?_
   refine px_then ?_
   refine cd_seq ?_
   refine cd_block ?_
   refine cd_sr ?_
   refine oq (op_index k sB_37 rfl rfl rfl (rds_row 1 rfl rfl) rfl (by omega)) ?_
   refine oq (op_ldaw (L := rootC _) ag_24 (rds_row 1 rfl rfl) rfl (by omega) rfl (rootC_ta _)) ?_
   refine oi (os_alloc (cs := (rootC Root.zero).toArray) zB_24 (by kernel_rfl)) ?_; rintro _ _ ⟨bx2, rfl, rfl⟩
   refine oN (os_storera _ ag_24 rfl rfl (Free.zero _)) ?_; rintro _ _ ⟨rfl, rfl⟩
   refine ol_nil_then ?_
   rw [prT_root hsk]
   refine cd_pull1 ?_
   refine cd_pull5 ?_
   refine cd_pull7 ?_
   refine cd_drawe (M := [_, _, _]) mx [4, 6, 7] ?_
   refine e_q 0 rfl (wn_none rfl) (op_move (v := .slice _ _ _) rfl) ?_
   refine e_q 1 rfl (wn_none rfl) (op_lda (L := rootC _) 0 ag_24 rfl rfl (rootC_take' _) (by simp [rootC_len])) ?_
   refine e_q 2 rfl (wn_none rfl) (op_move (v := .pointer _) rfl) ?_
   refine e_q 3 rfl (wn_none rfl) (op_lda (L := rootC _) 0 ag_24 rfl rfl (rootC_take' _) (by simp [rootC_len])) ?_
   refine et_1 (i := 4) (by kernel_rfl) ?_
   refine ei_i rfl rfl (wn_none rfl) (os_pull1 (os_call cb_26 rfl (fun w s => Own_calls _ _ _ _ _  s ))) rfl ?_; rintro _ _ ⟨rfl, rfl⟩; rw [ofF_rt2 hw hi0]; refine ⟨[_, _, _], rfl, ?_⟩
   refine e_q 5 rfl (wn_none rfl) (op_build (L := deltaC _) (vs := [(0, .agg (rootC _).toArray), (1, .int _ _)]) bB_102 rfl ⟨⟨by simp [Value.cells, rootC_len], by rw [deltaC_len]; rfl⟩, ⟨rfl, by rw [deltaC_len]; rfl⟩, trivial⟩ ((deltaC_b0 _ _ _).trans ((deltaC_b1 _ _ _).trans rfl))) ?_
   refine et_1 (i := 6) (by kernel_rfl) ?_
   refine ei_i rfl rfl (wn_none rfl) (os_bslice (E := encDelta) [_] (ys := [_]) sB_97 zv_102 rfl rfl rfl rfl (by decide)) rfl ?_; rintro _ _ ⟨ao1, rfl, rfl⟩; refine ⟨[_, _, _, _], rfl, ?_⟩
   refine et_1 (i := 7) (by kernel_rfl) ?_
   refine ei_i rfl rfl (wn_none rfl) (os_pull3 (os_append (E := encDelta) rfl sB_97 zv_102 rfl rfl rfl (fun w s => (rds_row 1 rfl rfl) [] w s) rfl (by simp; have := rk_le t.nodes a t.nodes.length; omega) (by unfold maxLen; simp; have := rk_le t.nodes a t.nodes.length; omega))) rfl ?_; rintro _ _ ⟨ao2, ac2, rfl, rfl⟩; refine ⟨[_, _, _, _], rfl, ?_⟩
   refine e_q 8 rfl (wn_none rfl) (op_assign (v := .slice _ _ _) rfl) ?_
   refine et_nil (by kernel_rfl) ?_
   refine px_blockN ?_
   refine px_then ?_
   refine cd_region ?_
   refine oq (op_add rfl rfl (by omega) (by omega)) ?_
   refine oq (op_move (v := .int _ _) rfl) ?_
   refine ol_nil ?_
   have eL : (delP t.nodes a o k) ++ [⟨rtA t.nodes i0, oA o i0⟩] = (delP t.nodes a o (k + 1)) := (delP_succ hsk).symm
   refine px_loop2 (k + 1, ao2, ac2) (by dsimp only; omega) (by (try dsimp only); omega) ⟨congrArg (fun q => Value.slice ao2 (List.length q) ac2) eL, congrArg (Value.int .i64) (by simp), trivial⟩ ?_ (fun _ s => by (try dsimp only); rw [← eL]; exact (((((((((s.del 4).del 1).pull 2).pull 6).pull 3).pull 6).pull 6).pull 6).pull 6))
   repeat (first | exact kept_over | refine kept_upd rfl ?_ | refine kept_overS (by decide) ?_)
  ·have hp2 := hb2
   (try simp only [bn] at hp2)
   have hke : k = rk t.nodes a t.nodes.length := by omega
   refine cd_exit ?_
   refine px_thenE ?_
   refine px_thenE ?_
   refine px_blockE ?_
   refine px_then ?_
   refine cd_sr ?_
   refine oq (op_move (v := .pointer _) rfl) ?_
   refine oq (op_move (v := .slice _ _ _) rfl) ?_
   refine ol_pull3 ?_
   refine ol_pull3 ?_
   refine oi (os_call cb_52 rfl (fun w s => Apply_calls (o := (growO (prT t a).nodes.length [])) _ _ _ _ _ _  s (Nat.le_of_eq (growO_len (Nat.zero_le _))) (OwnOK.nil.zeros _) (rds_row 0 rfl rfl) (by rw [hdl]; have := hw.m2; have := rk_le t.nodes a t.nodes.length; omega))) ?_; rintro _ _ ⟨rfl, rfl⟩; rw [delP_all hw hla h1 hok hke]; (try dsimp only)
   refine ol_nil_then ?_
   refine cd_sr ?_
   refine oq (op_move (v := .pointer _) rfl) ?_
   refine oq (op_move (v := .pointer _) rfl) ?_
   refine oq (op_assign (v := .pointer _) rfl) ?_
   refine oq (op_assign (v := .pointer _) rfl) ?_
   refine oq (op_assign (v := .int _ _) rfl) ?_
   refine ol_nil_then ?_
   refine cd_ret ?_
   exact px_ret3 rfl (v1 := .pointer _) (v2 := .pointer _) (v3 := .int _ 0) (l' := TreeObj _ (prT t a) :: WObj _ _ (prT t a).nodes (prO t.nodes a o) :: TreeObj p t :: WObj pw p t.nodes o :: l) rfl rfl rfl (fun _ s => (((s.del 5).del 3).del 2)) ⟨_, _, rfl, rfl⟩
end Go.SL

import Derived.Test.YtdeemlgkckpedaaWei7
import Derived.Test.YtdeemlgkckpedaaMPrn3
set_option linter.unusedVariables false
set_option linter.unusedSimpArgs false
namespace Go.SL
open Go.Proofs

theorem results_tmp4 {fn : Func} {t u v x : Tmp} (h : fn.results = #[.tmp t, .tmp u, .tmp v, .tmp x]) (tmps : Array Value) (P : Program) (w : World) :
  (results fn tmps).run P w = .ok (.tuple #[tmps.getD t undef, tmps.getD u undef, tmps.getD v undef, tmps.getD x undef]) w := by
 simp [results, h]
theorem px_ret4 {P : Program} {w0 : World} {n : Nat} {f : Fr} {l l' : List HProp} {fn : Func} {R : Value → List HProp → Prop} {t1 t2 t3 t4 : Tmp} {v1 v2 v3 v4 : Value} (hr : fn.results = #[.tmp t1, .tmp t2, .tmp t3, .tmp t4]) (h1 : f t1 = v1) (h2 : f t2 = v2) (h3 : f t3 = v3) (h4 : f t4 = v4) (hl : ∀ w, Sat w0 w l → Sat w0 w l') (h : R (.tuple #[v1, v2, v3, v4]) l') : PX w0 n .ret (bodyPost P fn (Ret w0 R)) f l :=
 fun a w r s => ⟨r.defers, _, by rw [results_tmp4 hr, r.get, r.get, r.get, r.get], _, l', by rw [h1, h2, h3, h4], h, hl w s⟩
theorem TNewOk_calls {w0 w : World} {l : List HProp} (r : Root) (slot most : Int) (hs : Sat w0 w l) (h : 1 ≤ most ∧ most ≤ 256 ∧ 0 ≤ slot ∧ slot ≤ 1073741824) :
  Calls Try.prog 45 #[.agg (rootC r).toArray, .int .i64 slot, .int .i64 most] w (Ret w0 fun v l' => ∃ p, v = .tuple #[.pointer (some ⟨p, 0, none⟩), .int .i64 0] ∧ l' = TreeObj p (TreeS.new r slot most) :: l) :=
 (TNew_calls r slot most hs).mono fun e w' ⟨v, l', he, hp, hs'⟩ => by
  rcases hp with ⟨_, _, hb⟩ | ⟨p, hv, _, hl⟩
  ·omega
  ·exact ⟨v, l', he, ⟨p, hv, hl⟩, hs'⟩

set_option maxRecDepth 100000 in
set_option maxHeartbeats 1000000 in
theorem PTreeN_calls {w0 w : World} {l : List HProp} (p : Nat) (t : TreeS) (r : Root) (hs : Sat w0 w ((TreeObj p t) :: l)) (hi : idxOf t.nodes r = none) :
  Calls Try.prog 15 #[.pointer (some ⟨p, 0, none⟩), .agg (rootC r).toArray] w (Ret w0 fun v l' => v = .tuple #[.pointer none, .int .i64 7] ∧ l' = TreeObj p t :: l) := by
 have hw := hs.treeWF
 have hm1 := hw.m1; have hm2 := hw.m2; have hle := hw.le; have hne := hw.ne
 have hpl : t.place r = -1 := by unfold TreeS.place; rw [hi]
 have hna : t.node (t.place r) = none := by rw [hpl]; rfl
 refine calls_enter Try.func15 rfl rfl rfl hs ?_
 refine cd_sr ?_
 refine oi (os_boxa rfl) ?_; rintro _ _ ⟨bx1, rfl, rfl⟩
 refine oq (op_assign (v := .pointer _) rfl) ?_
 refine oq (op_assign (v := .int _ _) rfl) ?_
 refine ol_nil_then ?_
 refine cd_seq ?_
 refine cd_sr ?_
 refine oq (op_move (v := .pointer _) rfl) ?_
 refine oq (op_eqnil Try.underlying26 rfl rfl) ?_
 refine ol_nil_then ?_
 refine cd_cond_f rfl rfl ?_
 refine cd_skip ?_
 refine px_then ?_
 refine cd_sr ?_
 refine oq (op_move (v := .pointer _) rfl) ?_
 refine oq (op_move (v := .pointer _) rfl) ?_
 refine oq (op_lda (L := rootC _) 0 ag_24 rfl rfl (rootC_take' _) (by simp [rootC_len])) ?_
 refine ol_pull1 ?_
 refine oi (os_call cb_31 rfl (fun w s => Place_calls _ _ _  s )) ?_; rintro _ _ ⟨rfl, rfl⟩
 refine oi (os_call cb_24 rfl (fun w s => Node_calls _ _ _  s )) ?_; rintro _ _ ⟨rfl, rfl⟩; rw [hna]
 refine oq (op_move (v := .tuple _) rfl) ?_
 refine oq (op_extract (v := .agg _) rfl rfl) ?_
 refine oq (op_extract (v := .bool _) rfl rfl) ?_
 refine oi (os_alloc (cs := (nodeC Node.zero).toArray) zB_51 (by kernel_rfl)) ?_; rintro _ _ ⟨bx2, rfl, rfl⟩
 refine oN (os_storew (nodeC _) ag_51 rfl rfl (nodeC_len _) (nodeC_one _) (by simp [nodeC_len]) (Free.zero _)) ?_; rintro _ _ ⟨rfl, rfl⟩
 refine oq (op_assign (v := .bool _) rfl) ?_
 refine ol_nil_then ?_
 refine cd_seq ?_
 refine cd_sr ?_
 refine oq (op_move (v := .bool _) rfl) ?_
 refine oq (op_not rfl) ?_
 refine ol_nil_then ?_
 refine cd_cond rfl (fun hb1 => ?_) (fun hb1 => ?_)
 ·have hp1 := hb1
  (try simp only [bn] at hp1)
  refine cd_sr ?_
  refine oq (op_assign (v := .pointer _) rfl) ?_
  refine oq (op_assign (v := .int _ _) rfl) ?_
  refine ol_nil_then ?_
  refine cd_ret ?_
  refine px_thenR ?_
  exact px_ret2 rfl (v1 := .pointer _) (v2 := .int _ _) rfl rfl (fun _ s => ((s.del 2).del 0)) ⟨rfl, rfl⟩
 ·have hp1 := hb1
  (try simp only [bn] at hp1)
  exact absurd hb1 (by simp)

set_option maxRecDepth 100000 in
set_option maxHeartbeats 1000000 in
theorem PTreeN_nil {w0 w : World} {l : List HProp} (r : Root) (hs : Sat w0 w (l))  :
  Calls Try.prog 15 #[.pointer none, .agg (rootC r).toArray] w (Ret w0 fun v l' => v = .tuple #[.pointer none, .int .i64 2] ∧ l' = l) := by
 refine calls_enter Try.func15 rfl rfl rfl hs ?_
 refine cd_sr ?_
 refine oi (os_boxa rfl) ?_; rintro _ _ ⟨bx1, rfl, rfl⟩
 refine oq (op_assign (v := .pointer _) rfl) ?_
 refine oq (op_assign (v := .int _ _) rfl) ?_
 refine ol_nil_then ?_
 refine cd_seq ?_
 refine cd_sr ?_
 refine oq (op_move (v := .pointer _) rfl) ?_
 refine oq (op_eqnil Try.underlying26 rfl rfl) ?_
 refine ol_nil_then ?_
 refine cd_cond_t rfl rfl ?_
 refine cd_sr ?_
 refine oq (op_assign (v := .pointer _) rfl) ?_
 refine oq (op_assign (v := .int _ _) rfl) ?_
 refine ol_nil_then ?_
 refine cd_ret ?_
 refine px_thenR ?_
 exact px_ret2 rfl (v1 := .pointer _) (v2 := .int _ _) rfl rfl (fun _ s => (s.del 0)) ⟨rfl, rfl⟩

set_option maxRecDepth 100000 in
set_option maxHeartbeats 1000000 in
theorem PTreeS_calls {w0 w : World} {l : List HProp} (p : Nat) (t : TreeS) (r : Root) (a : Nat) (hs : Sat w0 w ((TreeObj p t) :: l)) (hi : idxOf t.nodes r = some a) :
  Calls Try.prog 15 #[.pointer (some ⟨p, 0, none⟩), .agg (rootC r).toArray] w (Ret w0 fun v l' => ∃ q, v = .tuple #[.pointer (some ⟨q, 0, none⟩), .int .i64 0] ∧ l' = TreeObj q (prT t a) :: TreeObj p t :: l) := by
 have hw := hs.treeWF
 have hm1 := hw.m1; have hm2 := hw.m2; have hle := hw.le; have hne := hw.ne
 have hla := idxOf_lt hi
 have hsa := hw.sl _ (List.getElem_mem hla)
 have hsl := slA_get hla
 have hra : rtA t.nodes a = r := by obtain ⟨n, h1, h2⟩ := idxOf_some hi; unfold rtA; rw [h1]; exact h2
 have hpl : t.place r = (a : Int) := by unfold TreeS.place; rw [hi]
 have hna : t.node (t.place r) = t.nodes[a]? := by rw [hpl, TreeS.node_at]
 refine calls_enter Try.func15 rfl rfl rfl hs ?_
 refine cd_sr ?_
 refine oi (os_boxa rfl) ?_; rintro _ _ ⟨bx1, rfl, rfl⟩
 refine oq (op_assign (v := .pointer _) rfl) ?_
 refine oq (op_assign (v := .int _ _) rfl) ?_
 refine ol_nil_then ?_
 refine cd_seq ?_
 refine cd_sr ?_
 refine oq (op_move (v := .pointer _) rfl) ?_
 refine oq (op_eqnil Try.underlying26 rfl rfl) ?_
 refine ol_nil_then ?_
 refine cd_cond_f rfl rfl ?_
 refine cd_skip ?_
 refine px_then ?_
 refine cd_sr ?_
 refine oq (op_move (v := .pointer _) rfl) ?_
 refine oq (op_move (v := .pointer _) rfl) ?_
 refine oq (op_lda (L := rootC _) 0 ag_24 rfl rfl (rootC_take' _) (by simp [rootC_len])) ?_
 refine ol_pull1 ?_
 refine oi (os_call cb_31 rfl (fun w s => Place_calls _ _ _  s )) ?_; rintro _ _ ⟨rfl, rfl⟩
 refine oi (os_call cb_24 rfl (fun w s => Node_calls _ _ _  s )) ?_; rintro _ _ ⟨rfl, rfl⟩; rw [hna]
 refine oq (op_move (v := .tuple _) rfl) ?_
 refine oq (op_extract (v := .agg _) rfl rfl) ?_
 refine oq (op_extract (v := .bool _) rfl rfl) ?_
 refine oi (os_alloc (cs := (nodeC Node.zero).toArray) zB_51 (by kernel_rfl)) ?_; rintro _ _ ⟨bx2, rfl, rfl⟩
 refine oN (os_storew (nodeC _) ag_51 rfl rfl (nodeC_len _) (nodeC_one _) (by simp [nodeC_len]) (Free.zero _)) ?_; rintro _ _ ⟨rfl, rfl⟩
 refine oq (op_assign (v := .bool _) rfl) ?_
 refine ol_nil_then ?_
 refine cd_seq ?_
 refine cd_sr ?_
 refine oq (op_move (v := .bool _) rfl) ?_
 refine oq (op_not rfl) ?_
 refine ol_nil_then ?_
 refine cd_cond rfl (fun hb1 => ?_) (fun hb1 => ?_)
 ·have hp1 := hb1
  (try simp only [bn] at hp1)
  exact absurd hb1 (by rw [List.getElem?_eq_getElem hla]; simp)
 ·have hp1 := hb1
  (try simp only [bn] at hp1)
  refine cd_skip ?_
  refine px_then ?_
  refine cd_seq ?_
  refine cd_drawe (M := []) mx [4, 6, 8] ?_
  refine e_q 0 rfl (wn_none rfl) (op_lda (L := rootC _) 2 ag_24 rfl rfl (rootC_take' _) (by simp [rootC_len])) ?_
  refine e_q 1 rfl (wn_none rfl) (op_field fld_51_1 rfl) ?_
  refine e_q 2 rfl (wn_none rfl) (op_ld 0 sc_3 rfl rfl (show (nodeC _).toArray[32]? = some (.int .i64 (slA t.nodes a)) from nodeC_a32 _)) ?_
  refine e_q 3 rfl (wn_none rfl) (op_move (v := .pointer _) rfl) ?_
  refine e_q 5 rfl (wn_none rfl) (op_move (v := .pointer _) rfl) ?_
  refine et_1 (i := 4) (by kernel_rfl) ?_
  refine ei_i rfl rfl (wn_none rfl) (os_back (os_pull1 (os_call cb_29 rfl (fun w s => Len_calls _ _  s ))) (fun _ s => (((s.pull 2).pull 1).pull 2))) rfl ?_; rintro _ _ ⟨rfl, rfl⟩; refine ⟨[], rfl, ?_⟩
  refine et_1 (i := 6) (by kernel_rfl) ?_
  refine ei_i rfl rfl (wn_none rfl) (os_back (os_pull1 (os_call cb_21 rfl (fun w s => Room_calls _ _  s ))) (fun _ s => (((s.pull 2).pull 1).pull 2))) rfl ?_; rintro _ _ ⟨rfl, rfl⟩; refine ⟨[], rfl, ?_⟩
  refine e_q 7 rfl (wn_none rfl) (op_add rfl rfl (by omega) (by omega)) ?_
  refine et_1 (i := 8) (by kernel_rfl) ?_
  refine ei_i rfl rfl (wn_none rfl) (os_call cb_45 rfl (fun w s => TNewOk_calls _ _ _  s (by omega))) rfl ?_; rintro _ _ ⟨np5, rfl, rfl⟩; rw [show (t.nodes.length : Int) + (t.most - t.nodes.length) = t.most by omega]; refine ⟨[_], rfl, ?_⟩
  refine e_q 9 rfl (wn_none rfl) (op_move (v := .tuple _) rfl) ?_
  refine e_q 10 rfl (wn_none rfl) (op_extract (v := .pointer _) rfl rfl) ?_
  refine e_q 11 rfl (wn_none rfl) (op_extract (v := .int _ _) rfl rfl) ?_
  refine e_q 12 rfl (wn_none rfl) (op_assign (v := .pointer _) rfl) ?_
  refine e_q 13 rfl (wn_none rfl) (op_assign (v := .int _ _) rfl) ?_
  refine et_nil_then (by kernel_rfl) ?_
  refine cd_seq ?_
  refine cd_sr ?_
  refine oq (op_move (v := .pointer _) rfl) ?_
  refine oq (op_lda (L := rootC _) 3 ag_24 rfl rfl (rootC_take' _) (by simp [rootC_len])) ?_
  refine ol_pull2 ?_
  refine oi (os_call cb_31 rfl (fun w s => Place_calls _ _ _  s )) ?_; rintro _ _ ⟨rfl, rfl⟩; rw [hpl]
  refine oq (op_add rfl rfl (by omega) (by omega)) ?_
  refine oq (op_assign (v := .int _ _) rfl) ?_
  refine ol_nil_then ?_
  refine cd_block ?_
  refine cd_pull1 ?_
  refine cd_loop2 (α := Nat) [(10, 14), (43, 74)] (fun x => [(10, .int .i64 (x : Int))]) (fun x => TreeObj np5 ⟨prN t.nodes a x, t.most⟩ :: _) (fun x => a < x ∧ x ≤ t.nodes.length) (fun x => t.nodes.length - x) (a + 1) ⟨Nat.lt_succ_self a, hla⟩ ⟨congrArg (Value.int .i64) (by simp), trivial⟩ (fun _ s => by (try dsimp only); rw [prN_first, hra]; exact s) ?_
  rintro i ⟨hai, hi0⟩ f; (try dsimp only at hai hi0 ⊢)
  refine cd_seq ?_
  refine cd_sr ?_
  refine oq (op_move (v := .int _ _) rfl) ?_
  refine oq (op_move (v := .pointer _) rfl) ?_
  refine ol_pull1 ?_
  refine oi (os_call cb_29 rfl (fun w s => Len_calls _ _  s )) ?_; rintro _ _ ⟨rfl, rfl⟩
  refine oq (op_lt rfl rfl) ?_
  refine ol_nil_then ?_
  refine cd_cond rfl (fun hb2 => ?_) (fun hb2 => ?_)
  ·have hp2 := hb2
   (try simp only [bn] at hp2)
   have hi1 : i < t.nodes.length := by omega
   obtain ⟨j, hpj, hj1⟩ : ∃ j : Nat, prA t.nodes i = j ∧ j < i := by
    rcases hw.pa.rg hi1 with ⟨h, _⟩ | h
    ·omega
    ·exact h
   have hpc : TreeS.place ⟨prN t.nodes a i, t.most⟩ ((t.nodes[j]?).getD nodeNo).root = if belI t.nodes a (i : Int) = true then ((rk t.nodes a j : Nat) : Int) else -1 := prT_step hw hai hi1 hpj
   refine cd_skip ?_
   refine px_then ?_
   refine cd_seq ?_
   refine cd_block ?_
   refine cd_sr ?_
   refine oq (op_move (v := .pointer _) rfl) ?_
   refine oq (op_move (v := .int _ _) rfl) ?_
   refine oi (os_call cb_24 rfl (fun w s => Node_calls _ _ _  s )) ?_; rintro _ _ ⟨rfl, rfl⟩; rw [TreeS.node_at]
   refine oq (op_move (v := .tuple _) rfl) ?_
   refine oq (op_extract (v := .agg _) rfl rfl) ?_
   refine oq (op_extract (v := .bool _) rfl rfl) ?_
   refine oi (os_alloc (cs := (nodeC Node.zero).toArray) zB_51 (by kernel_rfl)) ?_; rintro _ _ ⟨bx3, rfl, rfl⟩
   refine oN (os_storew (nodeC _) ag_51 rfl rfl (nodeC_len _) (nodeC_one _) (by simp [nodeC_len]) (Free.zero _)) ?_; rintro _ _ ⟨rfl, rfl⟩
   refine oq (op_assign (v := .bool _) rfl) ?_
   refine ol_nil_then ?_
   refine cd_sr ?_
   refine oq (op_move (v := .pointer _) rfl) ?_
   refine oq (op_field fld_51_2 rfl) ?_
   refine oq (op_ld 0 sc_3 rfl rfl (show (nodeC _).toArray[33]? = some (.int .i64 (prA t.nodes i)) from nodeC_a33 _)) ?_
   refine ol_pull1 ?_
   refine oi (os_call cb_24 rfl (fun w s => Node_calls _ _ _  s )) ?_; rintro _ _ ⟨rfl, rfl⟩; rw [hpj, TreeS.node_at]
   refine oq (op_move (v := .tuple _) rfl) ?_
   refine oq (op_extract (v := .agg _) rfl rfl) ?_
   refine oq (op_extract (v := .bool _) rfl rfl) ?_
   refine oi (os_alloc (cs := (nodeC Node.zero).toArray) zB_51 (by kernel_rfl)) ?_; rintro _ _ ⟨bx4, rfl, rfl⟩
   refine oN (os_storew (nodeC _) ag_51 rfl rfl (nodeC_len _) (nodeC_one _) (by simp [nodeC_len]) (Free.zero _)) ?_; rintro _ _ ⟨rfl, rfl⟩
   refine oq (op_assign (v := .bool _) rfl) ?_
   refine ol_nil_then ?_
   refine cd_sr ?_
   refine oq (op_move (v := .pointer _) rfl) ?_
   refine oq (op_field fld_51_0 rfl) ?_
   refine oq (op_lda (L := rootC _) 0 ag_24 rfl rfl (nodeC_af0 _) (by simp [nodeC_len])) ?_
   refine ol_pull3 ?_
   refine oi (os_call cb_31 rfl (fun w s => Place_calls _ _ _  s )) ?_; rintro _ _ ⟨rfl, rfl⟩; rw [hpc]
   refine oq (op_ge rfl rfl) ?_
   refine ol_nil_then ?_
   refine cd_cond rfl (fun hb3 => ?_) (fun hb3 => ?_)
   ·have hp3 := hb3
    (try simp only [bn] at hp3)
    have hbe : belI t.nodes a (i : Int) = true := by
     cases hq : belI t.nodes a (i : Int)
     ·rw [hq] at hp3; simp at hp3
     ·rfl
    have hadd : TreeS.add ⟨prN t.nodes a i, t.most⟩ ((t.nodes[i]?).getD nodeNo).root ((t.nodes[j]?).getD nodeNo).root (slA t.nodes i) = (0, ⟨prN t.nodes a (i + 1), t.most⟩) := prT_add hw hai hi1 hpj hbe
    refine cd_region ?_
    refine oq (op_move (v := .pointer _) rfl) ?_
    refine oq (op_field fld_51_0 rfl) ?_
    refine oq (op_lda (L := rootC _) 3 ag_24 rfl rfl (nodeC_af0 _) (by simp [nodeC_len])) ?_
    refine oq (op_field fld_51_0 rfl) ?_
    refine oq (op_lda (L := rootC _) 1 ag_24 rfl rfl (nodeC_af0 _) (by simp [nodeC_len])) ?_
    refine oq (op_field fld_51_1 rfl) ?_
    refine oq (op_ld 3 sc_3 rfl rfl (show (nodeC _).toArray[32]? = some (.int .i64 (slA t.nodes i)) from nodeC_a32 _)) ?_
    refine oi (os_call cb_47 rfl (fun w s => Add_calls _ _ _ _ _  s )) ?_; rintro _ _ ⟨rfl, rfl⟩; rw [hadd]; (try dsimp only)
    refine ol_nil ?_
    refine px_blockN ?_
    refine px_then ?_
    refine cd_region ?_
    refine oq (op_move (v := .int _ _) rfl) ?_
    refine oq (op_add rfl rfl (by omega) (by omega)) ?_
    refine oq (op_assign (v := .int _ _) rfl) ?_
    refine ol_nil ?_
    refine px_loop2 (i + 1) ⟨by omega, by omega⟩ (by (try dsimp only); omega) ⟨congrArg (Value.int .i64) (by simp), trivial⟩ ?_ (fun _ s => (by (try dsimp only); exact ((s.del 3).del 1)))
    repeat (first | exact kept_over | refine kept_upd rfl ?_ | refine kept_overS (by decide) ?_)
   ·have hp3 := hb3
    (try simp only [bn] at hp3)
    have hbe : ¬ belI t.nodes a (i : Int) = true := fun hq => by rw [if_pos hq] at hp3; omega
    refine cd_skip ?_
    refine px_blockN ?_
    refine px_then ?_
    refine cd_region ?_
    refine oq (op_move (v := .int _ _) rfl) ?_
    refine oq (op_add rfl rfl (by omega) (by omega)) ?_
    refine oq (op_assign (v := .int _ _) rfl) ?_
    refine ol_nil ?_
    refine px_loop2 (i + 1) ⟨by omega, by omega⟩ (by (try dsimp only); omega) ⟨congrArg (Value.int .i64) (by simp), trivial⟩ ?_ (fun _ s => (by (try dsimp only); rw [prN_succ, if_neg hbe]; exact ((s.del 3).del 1)))
    repeat (first | exact kept_over | refine kept_upd rfl ?_ | refine kept_overS (by decide) ?_)
  ·have hp2 := hb2
   (try simp only [bn] at hp2)
   have hie : i = t.nodes.length := by omega
   refine cd_exit ?_
   refine px_thenE ?_
   refine px_thenE ?_
   refine px_blockE ?_
   refine px_then ?_
   refine cd_sr ?_
   refine oq (op_move (v := .pointer _) rfl) ?_
   refine oq (op_assign (v := .pointer _) rfl) ?_
   refine oq (op_assign (v := .int _ _) rfl) ?_
   refine ol_nil_then ?_
   refine cd_ret ?_
   rw [hie]
   exact px_ret2 rfl (v1 := .pointer _) (v2 := .int _ 0) (l' := TreeObj _ (prT t a) :: TreeObj p t :: l) rfl rfl (fun _ s => (((s.del 3).del 2).pull 1)) ⟨_, rfl, rfl⟩
end Go.SL

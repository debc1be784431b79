import Derived.Test.YtdeemlgkckpedaaK7
set_option linter.unusedVariables false
set_option linter.unusedSimpArgs false
namespace Go.SL
open Go.Proofs

theorem wobj_add {pw pt : Nat} {t : TreeS} (hw : t.WF) {o : List Int} (h : o.length ≤ t.nodes.length) (r q : Root) (slot : Int) : WObj pw pt t.nodes o = WObj pw pt (t.add r q slot).2.nodes o := by
 show WRaw _ _ _ (sumL _ _) _ _ = WRaw _ _ _ (sumL _ _) _ _
 rw [sumL_add hw h, bestL_add (by rw [sumL_len]; exact h), leafL_add (by rw [sumL_len]; exact h)]
theorem stakeV_had {vs : List Val} {tb : TabS} {who : Int} : stakeV vs tb who ((tb.vote who).getD Vote.zero).target = if tb.counts who = true ∧ (tb.vote who).isSome = true then stk vs who.toNat else 0 := by
 unfold stakeV
 cases hv : tb.vote who with
 | none => dsimp only; rw [if_neg (fun q => by cases q.2)]
 | some v =>
  dsimp only [Option.getD_some]
  by_cases hc : tb.counts who = true
  ·rw [if_pos ⟨hc, rfl⟩, if_pos ⟨hc, rfl⟩]
  ·rw [if_neg (fun q => hc q.1), if_neg (fun q => hc q.1)]
theorem had_rg {vs : List Val} (hs : StkOK vs) {tb : TabS} (hn : tb.latest.length = vs.length) {who : Int} {p : Prop} [Decidable p] (hp : p → tb.counts who = true) : 0 ≤ (if p then stk vs who.toNat else 0) ∧ (if p then stk vs who.toNat else 0) < 4611686018427387904 := by
 by_cases h : p
 ·rw [if_pos h]; have := counts_rg (hp h); exact stk_lt hs (by omega)
 ·rw [if_neg h]; decide
theorem stakeV_new {vs : List Val} {tb : TabS} (hb : tb.WF) {v : Vote} (h : (tb.take v).1 = 0) : stakeV vs (tb.take v).2 v.who v.target = stk vs v.who.toNat := by
 obtain ⟨h1, h2, h3, h4⟩ := TabS.once tb v hb
 obtain ⟨e1, _⟩ := h3 h
 have hc : tb.counts v.who = true := by
  rcases take_eff v hb with ⟨_, _, q, _⟩ | ⟨q, _⟩ | ⟨q, _⟩
  ·exact q
  ·rw [h] at q; cases q
  ·exact absurd h q
 have hc2 : (tb.take v).2.counts v.who = true := by
  cases q : (tb.take v).2.counts v.who
  ·have := h2.2 ⟨hc, q⟩; rw [h] at this; cases this
  ·rfl
 exact stakeV_yes (by rw [e1]; rfl) hc2 (by rw [e1]; rfl)
theorem unk_none {t : TreeS} {v : Vote} (h : idxOf t.nodes v.target = none) : unkB t v = true := by unfold unkB; rw [h]
theorem unk_some {t : TreeS} {v : Vote} {j : Nat} (h : idxOf t.nodes v.target = some j) : unkB t v = decide (v.slot < slA t.nodes j) := by unfold unkB; rw [h]
theorem btake_unk {t : TreeS} {tb : TabS} {v : Vote} (h : unkB t v = true) : BookS.take ⟨t, tb⟩ v = (6, tb) := if_pos h
theorem btake_yes {t : TreeS} {tb : TabS} {v : Vote} (h : unkB t v = false) : BookS.take ⟨t, tb⟩ v = tb.take v := if_neg (by rw [h]; simp)

set_option maxRecDepth 100000 in
set_option maxHeartbeats 1000000 in
theorem BAdd_calls {w0 w : World} {l : List HProp} (pb pt pw pv : Nat) (ao : Option Addr) (c : Nat) (xs : List Val) (n1 n2 n3 n4 n5 n6 n7 n8 n9 n10 n11 : Int) (t : TreeS) (tb : TabS) (r q : Root) (slot : Int) (hs : Sat w0 w ((Blk pb (.cells #[.slice ao xs.length c, .int .i64 n1, .int .i64 n2, .int .i64 n3, .int .i64 n4, .int .i64 n5, .int .i64 n6, .int .i64 n7, .int .i64 n8, .int .i64 n9, .int .i64 n10, .int .i64 n11, .pointer (some ⟨pt, 0, none⟩), .pointer (some ⟨pw, 0, none⟩), .pointer (some ⟨pv, 0, none⟩)] 131 (0, 0))) :: (TreeObj pt t) :: (WObj pw pt t.nodes (ownE xs (effT tb) t.nodes)) :: (TabObj pv tb) :: l)) (hn : tb.latest.length = xs.length) (hsk : StkOK xs) (hr : Rds w0 l encVal ao xs) :
  Calls Try.prog 64 #[.pointer (some ⟨pb, 0, none⟩), .agg (rootC r).toArray, .agg (rootC q).toArray, .int .i64 slot] w (Ret w0 fun v l' => v = .int .i64 (t.add r q slot).1 ∧ l' = Blk pb (.cells #[.slice ao xs.length c, .int .i64 n1, .int .i64 n2, .int .i64 n3, .int .i64 n4, .int .i64 n5, .int .i64 n6, .int .i64 n7, .int .i64 n8, .int .i64 n9, .int .i64 n10, .int .i64 n11, .pointer (some ⟨pt, 0, none⟩), .pointer (some ⟨pw, 0, none⟩), .pointer (some ⟨pv, 0, none⟩)] 131 (0, 0)) :: TreeObj pt (t.add r q slot).2 :: WObj pw pt (t.add r q slot).2.nodes (ownE xs (effT tb) (t.add r q slot).2.nodes) :: TabObj pv tb :: l) := by
 have hw := hs.drop.treeWF
 have hw2 := hw.add r q slot
 obtain ⟨_, yy, hyy⟩ := t.add_most r q slot
 have hll : t.nodes.length ≤ (t.add r q slot).2.nodes.length := by rw [hyy, List.length_append]; omega
 refine calls_enter Try.func64 rfl rfl rfl hs ?_
 refine Z18 ?_; intro bx1
 refine Z26 ?_; intro bx2
 refine Z5n ?_
 refine Z6k ?_
 refine Z37 ?_
 refine Zl ?_
 refine cd_pull3 ?_
 refine Z7 ?_
 refine cd_draw (M := [_]) mx [7] (by kernel_rfl) ?_
 refine Z6 ?_
 refine Zam ?_
 refine rg_q (wn_none rfl) (op_ld 2 sc_26 rfl rfl rfl) rfl rfl ?_
 refine rg_q (wn_none rfl) (op_lda (L := rootC _) 1 ag_24 rfl rfl (rootC_take' _) (by simp [rootC_len])) rfl rfl ?_
 refine Z10 ?_
 refine Zg ?_
 refine rg_i (wn_none rfl) (os_call cb_47 rfl (fun w s => Add_calls _ _ _ _ _  s )) rfl rfl ?_; rintro _ _ ⟨rfl, rfl⟩; refine ⟨[_], rfl, ?_⟩
 refine Z41 ?_
 refine Z1a ?_
 refine Z57 ?_
 refine cd_cond rfl (fun hb1 => ?_) (fun hb1 => ?_)
 ·have hp1 := hb1
  (try simp only [bn] at hp1)
  have hne : (t.add r q slot).1 ≠ 0 := by simpa using hb1
  have hte := add_err hne
  rw [hte]
  refine Z3h ?_
  refine Z17 ?_
  exact px_ret1 rfl (v := .int _ _) rfl (fun _ s => ((((((s.del 2).del 1).pull 3).pull 3).pull 2).pull 3)) ⟨rfl, rfl⟩
 have hp1 := hb1
 (try simp only [bn] at hp1)
 have h0 : (t.add r q slot).1 = 0 := by simpa using hb1
 refine Z9 ?_
 rw [wobj_add hw (Nat.le_of_eq (ownE_len _ _ _)) r q slot]
 refine cd_pull4 ?_
 refine Z7 ?_
 refine cd_drawe (M := [_, _]) mx [7, 9, 10] ?_
 refine Z1e ?_
 refine Z69 ?_
 refine e_q 2 rfl (wn_none rfl) (op_field fld_131_2 rfl) ?_
 refine e_q 3 rfl (wn_none rfl) (op_ld 2 sc_27 rfl rfl rfl) ?_
 refine e_q 4 rfl (wn_none rfl) (op_lda (L := rootC _) 1 ag_24 rfl rfl (rootC_take' _) (by simp [rootC_len])) ?_
 refine e_q 5 rfl (wn_none rfl) (op_move (v := .pointer _) rfl) ?_
 refine e_q 6 rfl (wn_none rfl) (op_lda (L := rootC _) 1 ag_24 rfl rfl (rootC_take' _) (by simp [rootC_len])) ?_
 refine Zm ?_
 refine ei_i rfl rfl (wn_none rfl) (os_back (os_pull5 (os_pull5 (os_call cb_88 rfl (fun w s => all_calls _ _ _ _ _ _ _ _ _ _ _ _ _ _ _ _ _ _ _ _  s (by assumption) (by assumption) ((((hr.cons _).cons _).cons _).cons _))))) (fun _ s => ((((((s.pull 1).pull 1).pull 5).pull 5).pull 5).pull 5))) rfl ?_; rintro _ _ ⟨rfl, rfl⟩; refine ⟨[_, _], rfl, ?_⟩
 refine e_q 8 rfl (wn_none rfl) (op_build (L := deltaC _) (vs := [(0, .agg (rootC _).toArray), (1, .int _ _)]) bB_102 rfl ⟨⟨by simp [Value.cells, rootC_len], by rw [deltaC_len]; rfl⟩, ⟨rfl, by rw [deltaC_len]; rfl⟩, trivial⟩ ((deltaC_b0 _ _ _).trans ((deltaC_b1 _ _ _).trans rfl))) ?_
 refine Z2c ?_
 refine ei_i rfl rfl (wn_none rfl) (os_bslice (E := encDelta) [_] (ys := [_]) sB_97 zv_102 rfl rfl rfl rfl (by decide)) rfl ?_; rintro _ _ ⟨ao1, rfl, rfl⟩; refine ⟨[_, _, _], rfl, ?_⟩
 refine Z1j ?_
 refine ei_i rfl rfl (wn_none rfl) (os_pull1 (os_pull2 (os_call cb_52 rfl (fun w s => Apply_calls _ _ _ _ _ _ _  s (by rw [ownE_len]; exact hll) (ownE_ok hsk hw) (rds_row 0 rfl rfl) (by show 1 ≤ 1000; decide))))) rfl ?_; rintro _ _ ⟨rfl, rfl⟩; rw [add_ownE hsk hw h0]; (try dsimp only); refine ⟨[_, _, _], rfl, ?_⟩
 refine e_q 11 rfl (wn_none rfl) (op_assign (v := .int _ _) rfl) ?_
 refine Z1c ?_
 exact px_ret1 rfl (v := .int _ _) rfl (fun _ s => (((((((s.del 4).del 3).del 2).pull 3).pull 2).pull 2).pull 3)) ⟨by rw [h0], rfl⟩

set_option maxRecDepth 100000 in
set_option maxHeartbeats 1000000 in
theorem BTake_calls {w0 w : World} {l : List HProp} (pb pt pw pv : Nat) (ao : Option Addr) (c : Nat) (xs : List Val) (n1 n2 n3 n4 n5 n6 n7 n8 n9 n10 n11 : Int) (t : TreeS) (tb : TabS) (u : Vote) (hs : Sat w0 w ((Blk pb (.cells #[.slice ao xs.length c, .int .i64 n1, .int .i64 n2, .int .i64 n3, .int .i64 n4, .int .i64 n5, .int .i64 n6, .int .i64 n7, .int .i64 n8, .int .i64 n9, .int .i64 n10, .int .i64 n11, .pointer (some ⟨pt, 0, none⟩), .pointer (some ⟨pw, 0, none⟩), .pointer (some ⟨pv, 0, none⟩)] 131 (0, 0))) :: (TreeObj pt t) :: (WObj pw pt t.nodes (ownE xs (effT tb) t.nodes)) :: (TabObj pv tb) :: l)) (hn : tb.latest.length = xs.length) (hsk : StkOK xs) (hr : Rds w0 l encVal ao xs) :
  Calls Try.prog 43 #[.pointer (some ⟨pb, 0, none⟩), .agg (voteC u).toArray] w (Ret w0 fun v l' => v = .int .i64 (BookS.take ⟨t, tb⟩ u).1 ∧ l' = Blk pb (.cells #[.slice ao xs.length c, .int .i64 n1, .int .i64 n2, .int .i64 n3, .int .i64 n4, .int .i64 n5, .int .i64 n6, .int .i64 n7, .int .i64 n8, .int .i64 n9, .int .i64 n10, .int .i64 n11, .pointer (some ⟨pt, 0, none⟩), .pointer (some ⟨pw, 0, none⟩), .pointer (some ⟨pv, 0, none⟩)] 131 (0, 0)) :: TreeObj pt t :: WObj pw pt t.nodes (ownE xs (effT (BookS.take ⟨t, tb⟩ u).2) t.nodes) :: TabObj pv (BookS.take ⟨t, tb⟩ u).2 :: l) := by
 have hw := hs.drop.treeWF
 have htw := ((hs.pull 3).tabWF)
 obtain ⟨had, hhad⟩ : ∃ h : Int, h = if tb.counts u.who = true ∧ (tb.vote u.who).isSome = true then stk xs u.who.toNat else 0 := ⟨_, rfl⟩
 have hs7 : stakeV xs tb u.who ((tb.vote u.who).getD Vote.zero).target = had := by rw [hhad]; exact stakeV_had
 have hrg := had_rg hsk hn (who := u.who) (p := tb.counts u.who = true ∧ (tb.vote u.who).isSome = true) (fun q => q.1)
 rw [← hhad] at hrg
 have htp := take_puts hsk hw htw hn u (old := ((tb.vote u.who).getD Vote.zero).target) (had := had) rfl hhad
 have hn2 : (tb.take u).2.latest.length = xs.length := by rw [(TabS.take_slots tb u).2]; exact hn
 refine calls_enter Try.func43 rfl rfl rfl hs ?_
 refine Z46 ?_; intro bx1
 refine Z6k ?_
 refine Z25 ?_
 rcases hix : idxOf t.nodes u.target with _ | j
 ·
  have hna : t.node (t.place u.target) = none := by unfold TreeS.place; rw [hix]; rfl
  have hpj : t.place u.target = -1 := by unfold TreeS.place; rw [hix]
  refine Z7 ?_
  refine cd_drawe (M := []) mx [10, 11, 15, 16] ?_
  refine Z1e ?_
  refine Z69 ?_
  refine e_q 2 rfl (wn_none rfl) (op_field fld_131_1 rfl) ?_
  refine e_q 3 rfl (wn_none rfl) (op_ld 1 sc_26 rfl rfl rfl) ?_
  refine Zc3 ?_
  refine e_q 6 rfl (wn_none rfl) (op_field fld_131_1 rfl) ?_
  refine e_q 7 rfl (wn_none rfl) (op_ld 1 sc_26 rfl rfl rfl) ?_
  refine e_q 8 rfl (wn_none rfl) (op_field fld_84_2 rfl) ?_
  refine e_q 9 rfl (wn_none rfl) (op_lda (L := rootC _) 0 ag_24 rfl rfl (voteC_af2 _) (by simp [voteC_len])) ?_
  refine et_2 (i1 := 10) (i2 := 15) (by kernel_rfl) ?_ ?_
  ·
   refine Zcx ?_
   refine et_2 (i1 := 11) (i2 := 15) (by kernel_rfl) ?_ ?_
   ·
    refine ei_i rfl rfl (wn_none rfl) (os_back (os_pull2 (os_call cb_24 rfl (fun w s => Node_calls _ _ _  s ))) (fun _ s => (((((s.pull 4).pull 4).pull 2).pull 4).pull 4))) rfl ?_; rintro _ _ ⟨rfl, rfl⟩; rw [hna]; refine ⟨[], rfl, ?_⟩
    refine Z84 ?_
    refine Z85 ?_
    refine Z86 ?_
    refine Z6a ?_
    refine Z87 ?_; intro bx2
    refine Z3r ?_
    refine Z88 ?_
    refine Z89 ?_
    refine Zq ?_
    refine Z12 ?_
    refine Z2x ?_
    refine Z5 ?_
    refine ol_split 30 rfl (fun hb1 => ?_) (fun hb1 => ?_)
    ·have hp1 := hb1
     (try simp only [bn] at hp1)
     have hunk := unk_none hix
     refine Z3w ?_
     refine Z8u ?_
     refine Z27 ?_
     refine Z42 ?_
     rw [btake_unk hunk]; (try dsimp only)
     exact Z8a
    have hp1 := hb1
    (try simp only [bn] at hp1)
    exact absurd hb1 (by simp)
   refine Z87 ?_; intro bx3
   refine Z2o ?_
   refine ei_i rfl rfl (wn_none rfl) (os_back (os_pull3 (os_call cb_24 rfl (fun w s => Node_calls _ _ _  s ))) (fun _ s => ((((((s.pull 5).pull 5).pull 2).pull 5).pull 5).pull 5))) rfl ?_; rintro _ _ ⟨rfl, rfl⟩; rw [hna]; refine ⟨[_], rfl, ?_⟩
   refine Z84 ?_
   refine Z85 ?_
   refine Z86 ?_
   refine Z3r ?_
   refine Z88 ?_
   refine Z89 ?_
   refine Zq ?_
   refine Z12 ?_
   refine Z2x ?_
   refine Z5 ?_
   refine ol_split 30 rfl (fun hb2 => ?_) (fun hb2 => ?_)
   ·have hp2 := hb2
    (try simp only [bn] at hp2)
    have hunk := unk_none hix
    refine Z1m ?_
    refine Z1m ?_
    refine Z64 ?_
    refine Z3c ?_
    refine Z42 ?_
    rw [btake_unk hunk]; (try dsimp only)
    exact Z8a
   have hp2 := hb2
   (try simp only [bn] at hp2)
   exact absurd hb2 (by simp)
  refine Z87 ?_; intro bx4
  refine Z1j ?_
  refine Zcy ?_
  refine Z2o ?_
  refine ei_i rfl rfl (wn_none rfl) (os_back (os_pull3 (os_call cb_24 rfl (fun w s => Node_calls _ _ _  s ))) (fun _ s => ((((((s.pull 5).pull 5).pull 2).pull 5).pull 5).pull 5))) rfl ?_; rintro _ _ ⟨rfl, rfl⟩; rw [hna]; refine ⟨[_], rfl, ?_⟩
  refine Z84 ?_
  refine Z85 ?_
  refine Z86 ?_
  refine Z3r ?_
  refine Z88 ?_
  refine Z89 ?_
  refine Zq ?_
  refine Z12 ?_
  refine Z2x ?_
  refine Z5 ?_
  refine ol_split 30 rfl (fun hb3 => ?_) (fun hb3 => ?_)
  ·have hp3 := hb3
   (try simp only [bn] at hp3)
   have hunk := unk_none hix
   refine Z2t ?_
   refine Z2t ?_
   refine Z9t ?_
   refine Z4s ?_
   refine Z42 ?_
   rw [btake_unk hunk]; (try dsimp only)
   exact Z8a
  have hp3 := hb3
  (try simp only [bn] at hp3)
  exact absurd hb3 (by simp)
 have hjl := idxOf_lt hix
 have hpj : t.place u.target = (j : Int) := by unfold TreeS.place; rw [hix]
 have hna : t.node (t.place u.target) = t.nodes[j]? := by rw [hpj, TreeS.node_at]
 refine Z7 ?_
 refine cd_drawe (M := []) mx [10, 11, 15, 16] ?_
 refine Z1e ?_
 refine Z69 ?_
 refine e_q 2 rfl (wn_none rfl) (op_field fld_131_1 rfl) ?_
 refine e_q 3 rfl (wn_none rfl) (op_ld 1 sc_26 rfl rfl rfl) ?_
 refine Zc3 ?_
 refine e_q 6 rfl (wn_none rfl) (op_field fld_131_1 rfl) ?_
 refine e_q 7 rfl (wn_none rfl) (op_ld 1 sc_26 rfl rfl rfl) ?_
 refine e_q 8 rfl (wn_none rfl) (op_field fld_84_2 rfl) ?_
 refine e_q 9 rfl (wn_none rfl) (op_lda (L := rootC _) 0 ag_24 rfl rfl (voteC_af2 _) (by simp [voteC_len])) ?_
 refine et_2 (i1 := 10) (i2 := 15) (by kernel_rfl) ?_ ?_
 ·
  refine Zcx ?_
  refine et_2 (i1 := 11) (i2 := 15) (by kernel_rfl) ?_ ?_
  ·
   refine ei_i rfl rfl (wn_none rfl) (os_back (os_pull2 (os_call cb_24 rfl (fun w s => Node_calls _ _ _  s ))) (fun _ s => (((((s.pull 4).pull 4).pull 2).pull 4).pull 4))) rfl ?_; rintro _ _ ⟨rfl, rfl⟩; rw [hna]; refine ⟨[], rfl, ?_⟩
   refine Z84 ?_
   refine Z85 ?_
   refine Z86 ?_
   refine Z6a ?_
   refine Z87 ?_; intro bx5
   refine Z3r ?_
   refine Z88 ?_
   refine Z89 ?_
   refine Zq ?_
   refine Z12 ?_
   refine Z2x ?_
   refine Z5 ?_
   refine ol_split 30 rfl (fun hb4 => ?_) (fun hb4 => ?_)
   ·have hp4 := hb4
    (try simp only [bn] at hp4)
    exact absurd hb4 (by rw [List.getElem?_eq_getElem hjl]; simp)
   have hp4 := hb4
   (try simp only [bn] at hp4)
   refine ol_q (wn_some rfl rfl rfl hb4 rfl) (op_field fld_51_1 rfl) rfl ?_
   refine ol_q (wn_some rfl rfl rfl hb4 rfl) (op_ld 0 sc_3 rfl rfl (show (nodeC _).toArray[32]? = some (.int .i64 (slA t.nodes j)) from nodeC_a32 _)) rfl ?_
   refine ol_q (wn_some rfl rfl rfl hb4 rfl) (op_field fld_84_1 rfl) rfl ?_
   refine ol_q (wn_some rfl rfl rfl hb4 rfl) (op_ld 1 sc_3 rfl rfl (voteC_a1 _)) rfl ?_
   refine ol_q (wn_some rfl rfl rfl hb4 rfl) (op_gt rfl rfl) rfl ?_
   refine oq (op_pick_f (v := .bool _) rfl hb4 rfl) ?_
   refine Z1 ?_
   refine cd_cond rfl (fun hb5 => ?_) (fun hb5 => ?_)
   ·have hp5 := hb5
    (try simp only [bn] at hp5)
    have hunk : unkB t u = true := by rw [unk_some hix]; exact decide_eq_true (by omega)
    refine Z24 ?_
    rw [btake_unk hunk]; (try dsimp only)
    exact Z8a
   have hp5 := hb5
   (try simp only [bn] at hp5)
   have hbt := btake_yes (tb := tb) (show unkB t u = false by rw [unk_some hix]; exact decide_eq_false (by omega))
   refine Zl ?_
   refine cd_drawe (M := []) mx [6, 10, 11] ?_
   refine Z1e ?_
   refine Z69 ?_
   refine Zc2 ?_
   refine Zc1 ?_
   refine et_2 (i1 := 6) (i2 := 10) (by kernel_rfl) ?_ ?_
   ·
    refine Zbi ?_
    refine Z8b ?_
    refine Z8c ?_
    refine Z8d ?_
    refine Z1j ?_
    refine Z8e ?_; intro bx6
    refine Z2o ?_
    refine Z8f ?_
    refine Z8g ?_
    refine Zq ?_
    refine Zc ?_
    refine Z5x ?_
    refine Z6v ?_
    refine Z6c ?_
    refine Z8h ?_
    refine Z2b ?_
    refine ol_pull4 ?_
    refine oi (os_call cb_73 rfl (fun w s => stake_calls _ _ _ _ _ _ _ _ _ _ _ _ _ _ _ _ _ _ _ _ _  s (by assumption) (((((hr.cons _).cons _).cons _).cons _).cons _))) ?_; rintro _ _ ⟨rfl, rfl⟩; rw [hs7]
    refine Z53 ?_
    refine Z7 ?_
    refine Z5h ?_
    refine Z6 ?_
    refine Z8i ?_
    refine Z8j ?_
    refine Z6d ?_
    refine Z8k ?_
    refine Z41 ?_
    refine Z70 ?_
    refine Z5 ?_
    refine ol_split 61 rfl (fun hb6 => ?_) (fun hb6 => ?_)
    ·have hp6 := hb6
     (try simp only [bn] at hp6)
     have h0 : (tb.take u).1 = 0 := by simpa using hb6
     refine Z7r ?_
     refine Z7r ?_
     refine oq (op_pick_t (v := .bool _) rfl hb6 rfl) ?_
     refine Z23 ?_
     refine Z4p ?_
     rw [show IntKind.i64.wrap (0 - had) = -had from by rw [wrap_i64 (by omega) (by omega)]; omega]
     refine Z4q ?_
     refine cd_cond rfl (fun hb7 => ?_) (fun hb7 => ?_)
     ·have hp7 := hb7
      (try simp only [bn] at hp7)
      refine cd_pull1 ?_
      refine cd_pull2 ?_
      refine Z8l ?_
      refine Ze ?_
      refine Z43 ?_
      refine Ze ?_
      refine Z22 ?_
      refine Z5j ?_
      refine Z43 ?_
      refine rg_i (wn_none rfl) (os_back (os_pull3 (os_pull3 (os_call cb_73 rfl (fun w s => stake_calls _ _ _ _ _ _ _ _ _ _ _ _ _ _ _ _ _ _ _ _ _  s hn2 (((((hr.cons _).cons _).cons _).cons _).cons _))))) (fun _ s => (((((((s.pull 6).pull 6).pull 6).pull 4).pull 4).pull 6).pull 6))) rfl rfl ?_; rintro _ _ ⟨rfl, rfl⟩; rw [stakeV_new htw h0]; refine ⟨[_, _, _], rfl, ?_⟩
      refine Z8m ?_
      refine rg_nil3 ?_
      refine px_then ?_
      refine Z3h ?_
      rw [(htp.1 h0).1, hbt]
      exact Z4h
     have hp7 := hb7
     (try simp only [bn] at hp7)
     exact absurd h0 (show (tb.take u).1 ≠ 0 by simpa using hb7)
    have hp6 := hb6
    (try simp only [bn] at hp6)
    have h0 : (tb.take u).1 ≠ 0 := by simpa using hb6
    refine ol_q (wn_some rfl rfl rfl hb6 rfl) (op_move (v := .int _ _) rfl) rfl ?_
    refine ol_q (wn_some rfl rfl rfl hb6 rfl) (op_eq rfl rfl) rfl ?_
    refine oq (op_pick_f (v := .bool _) rfl hb6 rfl) ?_
    refine Z1 ?_
    refine cd_cond rfl (fun hb8 => ?_) (fun hb8 => ?_)
    ·have hp8 := hb8
     (try simp only [bn] at hp8)
     have h2 : (tb.take u).1 = 2 := by simpa using hb8
     refine Z4p ?_
     rw [show IntKind.i64.wrap (0 - had) = -had from by rw [wrap_i64 (by omega) (by omega)]; omega]
     refine Z4q ?_
     refine cd_cond rfl (fun hb9 => ?_) (fun hb9 => ?_)
     ·have hp9 := hb9
      (try simp only [bn] at hp9)
      exact absurd (show (tb.take u).1 = 0 by simpa using hb9) h0
     have hp9 := hb9
     (try simp only [bn] at hp9)
     refine Z44 ?_
     rw [htp.2.1 h2, hbt]
     exact Z4h
    have hp8 := hb8
    (try simp only [bn] at hp8)
    have h2 : (tb.take u).1 ≠ 2 := by simpa using hb8
    refine Z9 ?_
    refine Z5o ?_
    refine cd_cond rfl (fun hb10 => ?_) (fun hb10 => ?_)
    ·have hp10 := hb10
     (try simp only [bn] at hp10)
     exact absurd (show (tb.take u).1 = 0 by simpa using hb10) h0
    have hp10 := hb10
    (try simp only [bn] at hp10)
    refine Z44 ?_
    rw [hbt, htp.2.2 h0 h2]
    exact Z8n
   refine Z8e ?_; intro bx7
   refine Zz ?_
   refine Zbj ?_
   refine Z8b ?_
   refine Z8c ?_
   refine Z8d ?_
   refine Z2o ?_
   refine Z8f ?_
   refine Z8g ?_
   refine Zq ?_
   refine Zc ?_
   refine Z5x ?_
   refine Z6v ?_
   refine Z6c ?_
   refine Z8h ?_
   refine Z2b ?_
   refine ol_pull4 ?_
   refine oi (os_call cb_73 rfl (fun w s => stake_calls _ _ _ _ _ _ _ _ _ _ _ _ _ _ _ _ _ _ _ _ _  s (by assumption) (((((hr.cons _).cons _).cons _).cons _).cons _))) ?_; rintro _ _ ⟨rfl, rfl⟩; rw [hs7]
   refine Z53 ?_
   refine Z7 ?_
   refine Z5h ?_
   refine Z6 ?_
   refine Z8i ?_
   refine Z8j ?_
   refine Z6d ?_
   refine Z8k ?_
   refine Z41 ?_
   refine Z70 ?_
   refine Z5 ?_
   refine ol_split 61 rfl (fun hb11 => ?_) (fun hb11 => ?_)
   ·have hp11 := hb11
    (try simp only [bn] at hp11)
    have h0 : (tb.take u).1 = 0 := by simpa using hb11
    refine ol_skip (wn_some rfl rfl rfl hb11 rfl) rfl ?_
    refine ol_skip (wn_some rfl rfl rfl hb11 rfl) rfl ?_
    refine oq (op_pick_t (v := .bool _) rfl hb11 rfl) ?_
    refine Z23 ?_
    refine Z4p ?_
    rw [show IntKind.i64.wrap (0 - had) = -had from by rw [wrap_i64 (by omega) (by omega)]; omega]
    refine Z4q ?_
    refine cd_cond rfl (fun hb12 => ?_) (fun hb12 => ?_)
    ·have hp12 := hb12
     (try simp only [bn] at hp12)
     refine cd_pull1 ?_
     refine cd_pull2 ?_
     refine Z8l ?_
     refine Ze ?_
     refine Z43 ?_
     refine Ze ?_
     refine Z22 ?_
     refine Z5j ?_
     refine Z43 ?_
     refine rg_i (wn_none rfl) (os_back (os_pull3 (os_pull3 (os_call cb_73 rfl (fun w s => stake_calls _ _ _ _ _ _ _ _ _ _ _ _ _ _ _ _ _ _ _ _ _  s hn2 (((((hr.cons _).cons _).cons _).cons _).cons _))))) (fun _ s => (((((((s.pull 6).pull 6).pull 6).pull 4).pull 4).pull 6).pull 6))) rfl rfl ?_; rintro _ _ ⟨rfl, rfl⟩; rw [stakeV_new htw h0]; refine ⟨[_, _, _], rfl, ?_⟩
     refine Z8m ?_
     refine rg_nil3 ?_
     refine px_then ?_
     refine Z3h ?_
     rw [(htp.1 h0).1, hbt]
     exact Z4h
    have hp12 := hb12
    (try simp only [bn] at hp12)
    exact absurd h0 (show (tb.take u).1 ≠ 0 by simpa using hb12)
   have hp11 := hb11
   (try simp only [bn] at hp11)
   have h0 : (tb.take u).1 ≠ 0 := by simpa using hb11
   refine ol_q (wn_some rfl rfl rfl hb11 rfl) (op_move (v := .int _ _) rfl) rfl ?_
   refine ol_q (wn_some rfl rfl rfl hb11 rfl) (op_eq rfl rfl) rfl ?_
   refine oq (op_pick_f (v := .bool _) rfl hb11 rfl) ?_
   refine Z1 ?_
   refine cd_cond rfl (fun hb13 => ?_) (fun hb13 => ?_)
   ·have hp13 := hb13
    (try simp only [bn] at hp13)
    have h2 : (tb.take u).1 = 2 := by simpa using hb13
    refine Z4p ?_
    rw [show IntKind.i64.wrap (0 - had) = -had from by rw [wrap_i64 (by omega) (by omega)]; omega]
    refine Z4q ?_
    refine cd_cond rfl (fun hb14 => ?_) (fun hb14 => ?_)
    ·have hp14 := hb14
     (try simp only [bn] at hp14)
     exact absurd (show (tb.take u).1 = 0 by simpa using hb14) h0
    have hp14 := hb14
    (try simp only [bn] at hp14)
    refine Z44 ?_
    rw [htp.2.1 h2, hbt]
    exact Z4h
   have hp13 := hb13
   (try simp only [bn] at hp13)
   have h2 : (tb.take u).1 ≠ 2 := by simpa using hb13
   refine Z9 ?_
   refine Z5o ?_
   refine cd_cond rfl (fun hb15 => ?_) (fun hb15 => ?_)
   ·have hp15 := hb15
    (try simp only [bn] at hp15)
    exact absurd (show (tb.take u).1 = 0 by simpa using hb15) h0
   have hp15 := hb15
   (try simp only [bn] at hp15)
   refine Z44 ?_
   rw [hbt, htp.2.2 h0 h2]
   exact Z8n
  refine Z87 ?_; intro bx8
  refine Z2o ?_
  refine ei_i rfl rfl (wn_none rfl) (os_back (os_pull3 (os_call cb_24 rfl (fun w s => Node_calls _ _ _  s ))) (fun _ s => ((((((s.pull 5).pull 5).pull 2).pull 5).pull 5).pull 5))) rfl ?_; rintro _ _ ⟨rfl, rfl⟩; rw [hna]; refine ⟨[_], rfl, ?_⟩
  refine Z84 ?_
  refine Z85 ?_
  refine Z86 ?_
  refine Z3r ?_
  refine Z88 ?_
  refine Z89 ?_
  refine Zq ?_
  refine Z12 ?_
  refine Z2x ?_
  refine Z5 ?_
  refine ol_split 30 rfl (fun hb16 => ?_) (fun hb16 => ?_)
  ·have hp16 := hb16
   (try simp only [bn] at hp16)
   exact absurd hb16 (by rw [List.getElem?_eq_getElem hjl]; simp)
  have hp16 := hb16
  (try simp only [bn] at hp16)
  refine ol_q (wn_some rfl rfl rfl hb16 rfl) (op_field fld_51_1 rfl) rfl ?_
  refine ol_q (wn_some rfl rfl rfl hb16 rfl) (op_ld 0 sc_3 rfl rfl (show (nodeC _).toArray[32]? = some (.int .i64 (slA t.nodes j)) from nodeC_a32 _)) rfl ?_
  refine ol_q (wn_some rfl rfl rfl hb16 rfl) (op_field fld_84_1 rfl) rfl ?_
  refine ol_q (wn_some rfl rfl rfl hb16 rfl) (op_ld 1 sc_3 rfl rfl (voteC_a1 _)) rfl ?_
  refine ol_q (wn_some rfl rfl rfl hb16 rfl) (op_gt rfl rfl) rfl ?_
  refine oq (op_pick_f (v := .bool _) rfl hb16 rfl) ?_
  refine Z1 ?_
  refine cd_cond rfl (fun hb17 => ?_) (fun hb17 => ?_)
  ·have hp17 := hb17
   (try simp only [bn] at hp17)
   have hunk : unkB t u = true := by rw [unk_some hix]; exact decide_eq_true (by omega)
   refine Z24 ?_
   rw [btake_unk hunk]; (try dsimp only)
   exact Z8a
  have hp17 := hb17
  (try simp only [bn] at hp17)
  have hbt := btake_yes (tb := tb) (show unkB t u = false by rw [unk_some hix]; exact decide_eq_false (by omega))
  refine Zl ?_
  refine cd_drawe (M := []) mx [6, 10, 11] ?_
  refine Z1e ?_
  refine Z69 ?_
  refine Zc2 ?_
  refine Zc1 ?_
  refine et_2 (i1 := 6) (i2 := 10) (by kernel_rfl) ?_ ?_
  ·
   refine Zbi ?_
   refine Z8b ?_
   refine Z8c ?_
   refine Z8d ?_
   refine Z1j ?_
   refine Z8e ?_; intro bx9
   refine Z2o ?_
   refine Z8f ?_
   refine Z8g ?_
   refine Zq ?_
   refine Zc ?_
   refine Z5x ?_
   refine Z6v ?_
   refine Z6c ?_
   refine Z8h ?_
   refine Z2b ?_
   refine ol_pull4 ?_
   refine oi (os_call cb_73 rfl (fun w s => stake_calls _ _ _ _ _ _ _ _ _ _ _ _ _ _ _ _ _ _ _ _ _  s (by assumption) (((((hr.cons _).cons _).cons _).cons _).cons _))) ?_; rintro _ _ ⟨rfl, rfl⟩; rw [hs7]
   refine Z53 ?_
   refine Z7 ?_
   refine Z5h ?_
   refine Z6 ?_
   refine Z8i ?_
   refine Z8j ?_
   refine Z6d ?_
   refine Z8k ?_
   refine Z41 ?_
   refine Z70 ?_
   refine Z5 ?_
   refine ol_split 61 rfl (fun hb18 => ?_) (fun hb18 => ?_)
   ·have hp18 := hb18
    (try simp only [bn] at hp18)
    have h0 : (tb.take u).1 = 0 := by simpa using hb18
    refine ol_skip (wn_some rfl rfl rfl hb18 rfl) rfl ?_
    refine ol_skip (wn_some rfl rfl rfl hb18 rfl) rfl ?_
    refine oq (op_pick_t (v := .bool _) rfl hb18 rfl) ?_
    refine Z23 ?_
    refine Z4p ?_
    rw [show IntKind.i64.wrap (0 - had) = -had from by rw [wrap_i64 (by omega) (by omega)]; omega]
    refine Z4q ?_
    refine cd_cond rfl (fun hb19 => ?_) (fun hb19 => ?_)
    ·have hp19 := hb19
     (try simp only [bn] at hp19)
     refine cd_pull1 ?_
     refine cd_pull2 ?_
     refine Z8l ?_
     refine Ze ?_
     refine Z43 ?_
     refine Ze ?_
     refine Z22 ?_
     refine Z5j ?_
     refine Z43 ?_
     refine rg_i (wn_none rfl) (os_back (os_pull3 (os_pull3 (os_call cb_73 rfl (fun w s => stake_calls _ _ _ _ _ _ _ _ _ _ _ _ _ _ _ _ _ _ _ _ _  s hn2 (((((hr.cons _).cons _).cons _).cons _).cons _))))) (fun _ s => (((((((s.pull 6).pull 6).pull 6).pull 4).pull 4).pull 6).pull 6))) rfl rfl ?_; rintro _ _ ⟨rfl, rfl⟩; rw [stakeV_new htw h0]; refine ⟨[_, _, _], rfl, ?_⟩
     refine Z8m ?_
     refine rg_nil3 ?_
     refine px_then ?_
     refine Z3h ?_
     rw [(htp.1 h0).1, hbt]
     exact Z4h
    have hp19 := hb19
    (try simp only [bn] at hp19)
    exact absurd h0 (show (tb.take u).1 ≠ 0 by simpa using hb19)
   have hp18 := hb18
   (try simp only [bn] at hp18)
   have h0 : (tb.take u).1 ≠ 0 := by simpa using hb18
   refine ol_q (wn_some rfl rfl rfl hb18 rfl) (op_move (v := .int _ _) rfl) rfl ?_
   refine ol_q (wn_some rfl rfl rfl hb18 rfl) (op_eq rfl rfl) rfl ?_
   refine oq (op_pick_f (v := .bool _) rfl hb18 rfl) ?_
   refine Z1 ?_
   refine cd_cond rfl (fun hb20 => ?_) (fun hb20 => ?_)
   ·have hp20 := hb20
    (try simp only [bn] at hp20)
    have h2 : (tb.take u).1 = 2 := by simpa using hb20
    refine Z4p ?_
    rw [show IntKind.i64.wrap (0 - had) = -had from by rw [wrap_i64 (by omega) (by omega)]; omega]
    refine Z4q ?_
    refine cd_cond rfl (fun hb21 => ?_) (fun hb21 => ?_)
    ·have hp21 := hb21
     (try simp only [bn] at hp21)
     exact absurd (show (tb.take u).1 = 0 by simpa using hb21) h0
    have hp21 := hb21
    (try simp only [bn] at hp21)
    refine Z44 ?_
    rw [htp.2.1 h2, hbt]
    exact Z4h
   have hp20 := hb20
   (try simp only [bn] at hp20)
   have h2 : (tb.take u).1 ≠ 2 := by simpa using hb20
   refine Z9 ?_
   refine Z5o ?_
   refine cd_cond rfl (fun hb22 => ?_) (fun hb22 => ?_)
   ·have hp22 := hb22
    (try simp only [bn] at hp22)
    exact absurd (show (tb.take u).1 = 0 by simpa using hb22) h0
   have hp22 := hb22
   (try simp only [bn] at hp22)
   refine Z44 ?_
   rw [hbt, htp.2.2 h0 h2]
   exact Z8n
  refine Z8e ?_; intro bx10
  refine Zz ?_
  refine Zbj ?_
  refine Z8b ?_
  refine Z8c ?_
  refine Z8d ?_
  refine Z2o ?_
  refine Z8f ?_
  refine Z8g ?_
  refine Zq ?_
  refine Zc ?_
  refine Z5x ?_
  refine Z6v ?_
  refine Z6c ?_
  refine Z8h ?_
  refine Z2b ?_
  refine ol_pull4 ?_
  refine oi (os_call cb_73 rfl (fun w s => stake_calls _ _ _ _ _ _ _ _ _ _ _ _ _ _ _ _ _ _ _ _ _  s (by assumption) (((((hr.cons _).cons _).cons _).cons _).cons _))) ?_; rintro _ _ ⟨rfl, rfl⟩; rw [hs7]
  refine Z53 ?_
  refine Z7 ?_
  refine Z5h ?_
  refine Z6 ?_
  refine Z8i ?_
  refine Z8j ?_
  refine Z6d ?_
  refine Z8k ?_
  refine Z41 ?_
  refine Z70 ?_
  refine Z5 ?_
  refine ol_split 61 rfl (fun hb23 => ?_) (fun hb23 => ?_)
  ·have hp23 := hb23
   (try simp only [bn] at hp23)
   have h0 : (tb.take u).1 = 0 := by simpa using hb23
   refine ol_skip (wn_some rfl rfl rfl hb23 rfl) rfl ?_
   refine ol_skip (wn_some rfl rfl rfl hb23 rfl) rfl ?_
   refine oq (op_pick_t (v := .bool _) rfl hb23 rfl) ?_
   refine Z23 ?_
   refine Z4p ?_
   rw [show IntKind.i64.wrap (0 - had) = -had from by rw [wrap_i64 (by omega) (by omega)]; omega]
   refine Z4q ?_
   refine cd_cond rfl (fun hb24 => ?_) (fun hb24 => ?_)
   ·have hp24 := hb24
    (try simp only [bn] at hp24)
    refine cd_pull1 ?_
    refine cd_pull2 ?_
    refine Z8l ?_
    refine Ze ?_
    refine Z43 ?_
    refine Ze ?_
    refine Z22 ?_
    refine Z5j ?_
    refine Z43 ?_
    refine rg_i (wn_none rfl) (os_back (os_pull3 (os_pull3 (os_call cb_73 rfl (fun w s => stake_calls _ _ _ _ _ _ _ _ _ _ _ _ _ _ _ _ _ _ _ _ _  s hn2 (((((hr.cons _).cons _).cons _).cons _).cons _))))) (fun _ s => (((((((s.pull 6).pull 6).pull 6).pull 4).pull 4).pull 6).pull 6))) rfl rfl ?_; rintro _ _ ⟨rfl, rfl⟩; rw [stakeV_new htw h0]; refine ⟨[_, _, _], rfl, ?_⟩
    refine Z8m ?_
    refine rg_nil3 ?_
    refine px_then ?_
    refine Z3h ?_
    rw [(htp.1 h0).1, hbt]
    exact Z4h
   have hp24 := hb24
   (try simp only [bn] at hp24)
   exact absurd h0 (show (tb.take u).1 ≠ 0 by simpa using hb24)
  have hp23 := hb23
  (try simp only [bn] at hp23)
  have h0 : (tb.take u).1 ≠ 0 := by simpa using hb23
  refine ol_q (wn_some rfl rfl rfl hb23 rfl) (op_move (v := .int _ _) rfl) rfl ?_
  refine ol_q (wn_some rfl rfl rfl hb23 rfl) (op_eq rfl rfl) rfl ?_
  refine oq (op_pick_f (v := .bool _) rfl hb23 rfl) ?_
  refine Z1 ?_
  refine cd_cond rfl (fun hb25 => ?_) (fun hb25 => ?_)
  ·have hp25 := hb25
   (try simp only [bn] at hp25)
   have h2 : (tb.take u).1 = 2 := by simpa using hb25
   refine Z4p ?_
   rw [show IntKind.i64.wrap (0 - had) = -had from by rw [wrap_i64 (by omega) (by omega)]; omega]
   refine Z4q ?_
   refine cd_cond rfl (fun hb26 => ?_) (fun hb26 => ?_)
   ·have hp26 := hb26
    (try simp only [bn] at hp26)
    exact absurd (show (tb.take u).1 = 0 by simpa using hb26) h0
   have hp26 := hb26
   (try simp only [bn] at hp26)
   refine Z44 ?_
   rw [htp.2.1 h2, hbt]
   exact Z4h
  have hp25 := hb25
  (try simp only [bn] at hp25)
  have h2 : (tb.take u).1 ≠ 2 := by simpa using hb25
  refine Z9 ?_
  refine Z5o ?_
  refine cd_cond rfl (fun hb27 => ?_) (fun hb27 => ?_)
  ·have hp27 := hb27
   (try simp only [bn] at hp27)
   exact absurd (show (tb.take u).1 = 0 by simpa using hb27) h0
  have hp27 := hb27
  (try simp only [bn] at hp27)
  refine Z44 ?_
  rw [hbt, htp.2.2 h0 h2]
  exact Z8n
 refine Z87 ?_; intro bx11
 refine Z1j ?_
 refine Zcy ?_
 refine Z2o ?_
 refine ei_i rfl rfl (wn_none rfl) (os_back (os_pull3 (os_call cb_24 rfl (fun w s => Node_calls _ _ _  s ))) (fun _ s => ((((((s.pull 5).pull 5).pull 2).pull 5).pull 5).pull 5))) rfl ?_; rintro _ _ ⟨rfl, rfl⟩; rw [hna]; refine ⟨[_], rfl, ?_⟩
 refine Z84 ?_
 refine Z85 ?_
 refine Z86 ?_
 refine Z3r ?_
 refine Z88 ?_
 refine Z89 ?_
 refine Zq ?_
 refine Z12 ?_
 refine Z2x ?_
 refine Z5 ?_
 refine ol_split 30 rfl (fun hb28 => ?_) (fun hb28 => ?_)
 ·have hp28 := hb28
  (try simp only [bn] at hp28)
  exact absurd hb28 (by rw [List.getElem?_eq_getElem hjl]; simp)
 have hp28 := hb28
 (try simp only [bn] at hp28)
 refine ol_q (wn_some rfl rfl rfl hb28 rfl) (op_field fld_51_1 rfl) rfl ?_
 refine ol_q (wn_some rfl rfl rfl hb28 rfl) (op_ld 0 sc_3 rfl rfl (show (nodeC _).toArray[32]? = some (.int .i64 (slA t.nodes j)) from nodeC_a32 _)) rfl ?_
 refine ol_q (wn_some rfl rfl rfl hb28 rfl) (op_field fld_84_1 rfl) rfl ?_
 refine ol_q (wn_some rfl rfl rfl hb28 rfl) (op_ld 1 sc_3 rfl rfl (voteC_a1 _)) rfl ?_
 refine ol_q (wn_some rfl rfl rfl hb28 rfl) (op_gt rfl rfl) rfl ?_
 refine oq (op_pick_f (v := .bool _) rfl hb28 rfl) ?_
 refine Z1 ?_
 refine cd_cond rfl (fun hb29 => ?_) (fun hb29 => ?_)
 ·have hp29 := hb29
  (try simp only [bn] at hp29)
  have hunk : unkB t u = true := by rw [unk_some hix]; exact decide_eq_true (by omega)
  refine Z24 ?_
  rw [btake_unk hunk]; (try dsimp only)
  exact Z8a
 have hp29 := hb29
 (try simp only [bn] at hp29)
 have hbt := btake_yes (tb := tb) (show unkB t u = false by rw [unk_some hix]; exact decide_eq_false (by omega))
 refine Zl ?_
 refine cd_drawe (M := []) mx [6, 10, 11] ?_
 refine Z1e ?_
 refine Z69 ?_
 refine Zc2 ?_
 refine Zc1 ?_
 refine et_2 (i1 := 6) (i2 := 10) (by kernel_rfl) ?_ ?_
 ·
  refine Zbi ?_
  refine Z8b ?_
  refine Z8c ?_
  refine Z8d ?_
  refine Z1j ?_
  refine Z8e ?_; intro bx12
  refine Z2o ?_
  refine Z8f ?_
  refine Z8g ?_
  refine Zq ?_
  refine Zc ?_
  refine Z5x ?_
  refine Z6v ?_
  refine Z6c ?_
  refine Z8h ?_
  refine Z2b ?_
  refine ol_pull4 ?_
  refine oi (os_call cb_73 rfl (fun w s => stake_calls _ _ _ _ _ _ _ _ _ _ _ _ _ _ _ _ _ _ _ _ _  s (by assumption) (((((hr.cons _).cons _).cons _).cons _).cons _))) ?_; rintro _ _ ⟨rfl, rfl⟩; rw [hs7]
  refine Z53 ?_
  refine Z7 ?_
  refine Z5h ?_
  refine Z6 ?_
  refine Z8i ?_
  refine Z8j ?_
  refine Z6d ?_
  refine Z8k ?_
  refine Z41 ?_
  refine Z70 ?_
  refine Z5 ?_
  refine ol_split 61 rfl (fun hb30 => ?_) (fun hb30 => ?_)
  ·have hp30 := hb30
   (try simp only [bn] at hp30)
   have h0 : (tb.take u).1 = 0 := by simpa using hb30
   refine ol_skip (wn_some rfl rfl rfl hb30 rfl) rfl ?_
   refine ol_skip (wn_some rfl rfl rfl hb30 rfl) rfl ?_
   refine oq (op_pick_t (v := .bool _) rfl hb30 rfl) ?_
   refine Z23 ?_
   refine Z4p ?_
   rw [show IntKind.i64.wrap (0 - had) = -had from by rw [wrap_i64 (by omega) (by omega)]; omega]
   refine Z4q ?_
   refine cd_cond rfl (fun hb31 => ?_) (fun hb31 => ?_)
   ·have hp31 := hb31
    (try simp only [bn] at hp31)
    refine cd_pull1 ?_
    refine cd_pull2 ?_
    refine Z8l ?_
    refine Ze ?_
    refine Z43 ?_
    refine Ze ?_
    refine Z22 ?_
    refine Z5j ?_
    refine Z43 ?_
    refine rg_i (wn_none rfl) (os_back (os_pull3 (os_pull3 (os_call cb_73 rfl (fun w s => stake_calls _ _ _ _ _ _ _ _ _ _ _ _ _ _ _ _ _ _ _ _ _  s hn2 (((((hr.cons _).cons _).cons _).cons _).cons _))))) (fun _ s => (((((((s.pull 6).pull 6).pull 6).pull 4).pull 4).pull 6).pull 6))) rfl rfl ?_; rintro _ _ ⟨rfl, rfl⟩; rw [stakeV_new htw h0]; refine ⟨[_, _, _], rfl, ?_⟩
    refine Z8m ?_
    refine rg_nil3 ?_
    refine px_then ?_
    refine Z3h ?_
    rw [(htp.1 h0).1, hbt]
    exact Z4h
   have hp31 := hb31
   (try simp only [bn] at hp31)
   exact absurd h0 (show (tb.take u).1 ≠ 0 by simpa using hb31)
  have hp30 := hb30
  (try simp only [bn] at hp30)
  have h0 : (tb.take u).1 ≠ 0 := by simpa using hb30
  refine ol_q (wn_some rfl rfl rfl hb30 rfl) (op_move (v := .int _ _) rfl) rfl ?_
  refine ol_q (wn_some rfl rfl rfl hb30 rfl) (op_eq rfl rfl) rfl ?_
  refine oq (op_pick_f (v := .bool _) rfl hb30 rfl) ?_
  refine Z1 ?_
  refine cd_cond rfl (fun hb32 => ?_) (fun hb32 => ?_)
  ·have hp32 := hb32
   (try simp only [bn] at hp32)
   have h2 : (tb.take u).1 = 2 := by simpa using hb32
   refine Z4p ?_
   rw [show IntKind.i64.wrap (0 - had) = -had from by rw [wrap_i64 (by omega) (by omega)]; omega]
   refine Z4q ?_
   refine cd_cond rfl (fun hb33 => ?_) (fun hb33 => ?_)
   ·have hp33 := hb33
    (try simp only [bn] at hp33)
    exact absurd (show (tb.take u).1 = 0 by simpa using hb33) h0
   have hp33 := hb33
   (try simp only [bn] at hp33)
   refine Z44 ?_
   rw [htp.2.1 h2, hbt]
   exact Z4h
  have hp32 := hb32
  (try simp only [bn] at hp32)
  have h2 : (tb.take u).1 ≠ 2 := by simpa using hb32
  refine Z9 ?_
  refine Z5o ?_
  refine cd_cond rfl (fun hb34 => ?_) (fun hb34 => ?_)
  ·have hp34 := hb34
   (try simp only [bn] at hp34)
   exact absurd (show (tb.take u).1 = 0 by simpa using hb34) h0
  have hp34 := hb34
  (try simp only [bn] at hp34)
  refine Z44 ?_
  rw [hbt, htp.2.2 h0 h2]
  exact Z8n
 refine Z8e ?_; intro bx13
 refine Zz ?_
 refine Zbj ?_
 refine Z8b ?_
 refine Z8c ?_
 refine Z8d ?_
 refine Z2o ?_
 refine Z8f ?_
 refine Z8g ?_
 refine Zq ?_
 refine Zc ?_
 refine Z5x ?_
 refine Z6v ?_
 refine Z6c ?_
 refine Z8h ?_
 refine Z2b ?_
 refine ol_pull4 ?_
 refine oi (os_call cb_73 rfl (fun w s => stake_calls _ _ _ _ _ _ _ _ _ _ _ _ _ _ _ _ _ _ _ _ _  s (by assumption) (((((hr.cons _).cons _).cons _).cons _).cons _))) ?_; rintro _ _ ⟨rfl, rfl⟩; rw [hs7]
 refine Z53 ?_
 refine Z7 ?_
 refine Z5h ?_
 refine Z6 ?_
 refine Z8i ?_
 refine Z8j ?_
 refine Z6d ?_
 refine Z8k ?_
 refine Z41 ?_
 refine Z70 ?_
 refine Z5 ?_
 refine ol_split 61 rfl (fun hb35 => ?_) (fun hb35 => ?_)
 ·have hp35 := hb35
  (try simp only [bn] at hp35)
  have h0 : (tb.take u).1 = 0 := by simpa using hb35
  refine ol_skip (wn_some rfl rfl rfl hb35 rfl) rfl ?_
  refine ol_skip (wn_some rfl rfl rfl hb35 rfl) rfl ?_
  refine oq (op_pick_t (v := .bool _) rfl hb35 rfl) ?_
  refine Z23 ?_
  refine Z4p ?_
  rw [show IntKind.i64.wrap (0 - had) = -had from by rw [wrap_i64 (by omega) (by omega)]; omega]
  refine Z4q ?_
  refine cd_cond rfl (fun hb36 => ?_) (fun hb36 => ?_)
  ·have hp36 := hb36
   (try simp only [bn] at hp36)
   refine cd_pull1 ?_
   refine cd_pull2 ?_
   refine Z8l ?_
   refine Ze ?_
   refine Z43 ?_
   refine Ze ?_
   refine Z22 ?_
   refine Z5j ?_
   refine Z43 ?_
   refine rg_i (wn_none rfl) (os_back (os_pull3 (os_pull3 (os_call cb_73 rfl (fun w s => stake_calls _ _ _ _ _ _ _ _ _ _ _ _ _ _ _ _ _ _ _ _ _  s hn2 (((((hr.cons _).cons _).cons _).cons _).cons _))))) (fun _ s => (((((((s.pull 6).pull 6).pull 6).pull 4).pull 4).pull 6).pull 6))) rfl rfl ?_; rintro _ _ ⟨rfl, rfl⟩; rw [stakeV_new htw h0]; refine ⟨[_, _, _], rfl, ?_⟩
   refine Z8m ?_
   refine rg_nil3 ?_
   refine px_then ?_
   refine Z3h ?_
   rw [(htp.1 h0).1, hbt]
   exact Z4h
  have hp36 := hb36
  (try simp only [bn] at hp36)
  exact absurd h0 (show (tb.take u).1 ≠ 0 by simpa using hb36)
 have hp35 := hb35
 (try simp only [bn] at hp35)
 have h0 : (tb.take u).1 ≠ 0 := by simpa using hb35
 refine ol_q (wn_some rfl rfl rfl hb35 rfl) (op_move (v := .int _ _) rfl) rfl ?_
 refine ol_q (wn_some rfl rfl rfl hb35 rfl) (op_eq rfl rfl) rfl ?_
 refine oq (op_pick_f (v := .bool _) rfl hb35 rfl) ?_
 refine Z1 ?_
 refine cd_cond rfl (fun hb37 => ?_) (fun hb37 => ?_)
 ·have hp37 := hb37
  (try simp only [bn] at hp37)
  have h2 : (tb.take u).1 = 2 := by simpa using hb37
  refine Z4p ?_
  rw [show IntKind.i64.wrap (0 - had) = -had from by rw [wrap_i64 (by omega) (by omega)]; omega]
  refine Z4q ?_
  refine cd_cond rfl (fun hb38 => ?_) (fun hb38 => ?_)
  ·have hp38 := hb38
   (try simp only [bn] at hp38)
   exact absurd (show (tb.take u).1 = 0 by simpa using hb38) h0
  have hp38 := hb38
  (try simp only [bn] at hp38)
  refine Z44 ?_
  rw [htp.2.1 h2, hbt]
  exact Z4h
 have hp37 := hb37
 (try simp only [bn] at hp37)
 have h2 : (tb.take u).1 ≠ 2 := by simpa using hb37
 refine Z9 ?_
 refine Z5o ?_
 refine cd_cond rfl (fun hb39 => ?_) (fun hb39 => ?_)
 ·have hp39 := hb39
  (try simp only [bn] at hp39)
  exact absurd (show (tb.take u).1 = 0 by simpa using hb39) h0
 have hp39 := hb39
 (try simp only [bn] at hp39)
 refine Z44 ?_
 rw [hbt, htp.2.2 h0 h2]
 exact Z8n

set_option maxRecDepth 100000 in
set_option maxHeartbeats 1000000 in
theorem BKeepN_calls {w0 w : World} {l : List HProp} (pb pt pw pv : Nat) (ao : Option Addr) (c : Nat) (xs : List Val) (n1 n2 n3 n4 n5 n6 n7 n8 n9 n10 n11 : Int) (t : TreeS) (E : Nat → Option Root) (r : Root) (hs : Sat w0 w ((Blk pb (.cells #[.slice ao xs.length c, .int .i64 n1, .int .i64 n2, .int .i64 n3, .int .i64 n4, .int .i64 n5, .int .i64 n6, .int .i64 n7, .int .i64 n8, .int .i64 n9, .int .i64 n10, .int .i64 n11, .pointer (some ⟨pt, 0, none⟩), .pointer (some ⟨pw, 0, none⟩), .pointer (some ⟨pv, 0, none⟩)] 131 (0, 0))) :: (TreeObj pt t) :: (WObj pw pt t.nodes (ownE xs E t.nodes)) :: l)) (hi : idxOf t.nodes r = none) (hsk : StkOK xs) :
  Calls Try.prog 44 #[.pointer (some ⟨pb, 0, none⟩), .agg (rootC r).toArray] w (Ret w0 fun v l' => v = .int .i64 7 ∧ l' = Blk pb (.cells #[.slice ao xs.length c, .int .i64 n1, .int .i64 n2, .int .i64 n3, .int .i64 n4, .int .i64 n5, .int .i64 n6, .int .i64 n7, .int .i64 n8, .int .i64 n9, .int .i64 n10, .int .i64 n11, .pointer (some ⟨pt, 0, none⟩), .pointer (some ⟨pw, 0, none⟩), .pointer (some ⟨pv, 0, none⟩)] 131 (0, 0)) :: TreeObj pt t :: WObj pw pt t.nodes (ownE xs E t.nodes) :: l) := by
 refine calls_enter Try.func44 rfl rfl rfl hs ?_
 refine Z46 ?_; intro bx1
 refine Z6k ?_
 refine Z25 ?_
 refine cd_pull2 ?_
 refine cd_pull3 ?_
 refine Z7 ?_
 refine cd_draw (M := [_, _]) mx [9] (by kernel_rfl) ?_
 refine Z6 ?_
 refine Zam ?_
 refine Z7c ?_
 refine Z6 ?_
 refine Zan ?_
 refine Zao ?_
 refine Z10 ?_
 refine rg_i (wn_none rfl) (os_pull1 (os_call cb_16 rfl (fun w s => PAllN_calls _ _ _ _ _  s (by assumption)))) rfl rfl ?_; rintro _ _ ⟨rfl, rfl⟩; refine ⟨[_, _], rfl, ?_⟩
 refine Z5b ?_
 refine Z6l ?_
 refine Z6l ?_
 refine Z8x ?_
 refine Z5i ?_
 refine Z5i ?_
 refine Z33 ?_
 refine rg_nil_then2 ?_
 refine Zu ?_
 refine Z57 ?_
 refine cd_cond rfl (fun hb1 => ?_) (fun hb1 => ?_)
 ·have hp1 := hb1
  (try simp only [bn] at hp1)
  refine Z3h ?_
  refine Z17 ?_
  exact px_ret1 rfl (v := .int _ _) rfl (fun _ s => ((((s.del 2).pull 1).pull 1).pull 2)) ⟨rfl, rfl⟩
 have hp1 := hb1
 (try simp only [bn] at hp1)
 exact absurd hb1 (by decide)

set_option maxRecDepth 100000 in
set_option maxHeartbeats 1000000 in
theorem BKeepS_calls {w0 w : World} {l : List HProp} (pb pt pw pv : Nat) (ao : Option Addr) (c : Nat) (xs : List Val) (n1 n2 n3 n4 n5 n6 n7 n8 n9 n10 n11 : Int) (t : TreeS) (E : Nat → Option Root) (r : Root) (a : Nat) (hs : Sat w0 w ((Blk pb (.cells #[.slice ao xs.length c, .int .i64 n1, .int .i64 n2, .int .i64 n3, .int .i64 n4, .int .i64 n5, .int .i64 n6, .int .i64 n7, .int .i64 n8, .int .i64 n9, .int .i64 n10, .int .i64 n11, .pointer (some ⟨pt, 0, none⟩), .pointer (some ⟨pw, 0, none⟩), .pointer (some ⟨pv, 0, none⟩)] 131 (0, 0))) :: (TreeObj pt t) :: (WObj pw pt t.nodes (ownE xs E t.nodes)) :: l)) (hi : idxOf t.nodes r = some a) (hsk : StkOK xs) :
  Calls Try.prog 44 #[.pointer (some ⟨pb, 0, none⟩), .agg (rootC r).toArray] w (Ret w0 fun v l' => ∃ qt qw, v = .int .i64 0 ∧ l' = Blk pb (.cells #[.slice ao xs.length c, .int .i64 n1, .int .i64 n2, .int .i64 n3, .int .i64 n4, .int .i64 n5, .int .i64 n6, .int .i64 n7, .int .i64 n8, .int .i64 n9, .int .i64 n10, .int .i64 n11, .pointer (some ⟨qt, 0, none⟩), .pointer (some ⟨qw, 0, none⟩), .pointer (some ⟨pv, 0, none⟩)] 131 (0, 0)) :: TreeObj qt (prT t a) :: WObj qw qt (prT t a).nodes (ownE xs E (prT t a).nodes) :: l) := by
 have hw := hs.drop.treeWF
 refine calls_enter Try.func44 rfl rfl rfl hs ?_
 refine Z46 ?_; intro bx1
 refine Z6k ?_
 refine Z25 ?_
 refine cd_pull2 ?_
 refine cd_pull3 ?_
 refine Z7 ?_
 refine cd_draw (M := [_, _]) mx [9] (by kernel_rfl) ?_
 refine Z6 ?_
 refine Zam ?_
 refine Z7c ?_
 refine Z6 ?_
 refine Zan ?_
 refine Zao ?_
 refine Z10 ?_
 refine rg_i (wn_none rfl) (os_pull1 (os_call cb_16 rfl (fun w s => PAllS_calls _ _ _ _ _ _  s hi (Nat.le_of_eq (ownE_len _ _ _)) (ownE_ok hsk hw)))) rfl rfl ?_; rintro _ _ ⟨pq1, qw1, rfl, rfl⟩; rw [pr_ownE hw a]; refine ⟨[_, _, _, _], rfl, ?_⟩
 refine Z5b ?_
 refine Z6l ?_
 refine Z6l ?_
 refine Z8x ?_
 refine Z5i ?_
 refine Z5i ?_
 refine Z33 ?_
 refine rg_nil_then4 ?_
 refine Zu ?_
 refine Z57 ?_
 refine cd_cond rfl (fun hb1 => ?_) (fun hb1 => ?_)
 ·have hp1 := hb1
  (try simp only [bn] at hp1)
  exact absurd hb1 (by decide)
 have hp1 := hb1
 (try simp only [bn] at hp1)
 refine Z9 ?_
 refine Z3o ?_
 refine Z1k ?_
 refine Z1k ?_
 refine Zr ?_
 refine oq (op_field fld_131_1 rfl) ?_
 refine ol_pull5 ?_
 refine oN (os_store (v := .pointer _) sc_26 rfl rfl rfl rfl (Free.zero _) rfl) ?_; rintro _ _ ⟨rfl, rfl⟩
 refine Zr ?_
 refine oq (op_field fld_131_2 rfl) ?_
 refine oN (os_store (v := .pointer _) sc_27 rfl rfl rfl rfl (Free.zero _) rfl) ?_; rintro _ _ ⟨rfl, rfl⟩
 refine Z1 ?_
 refine Z1f ?_
 exact px_ret1 rfl (v := .int _ _) rfl (fun _ s => (((s.del 5).del 4).del 3)) ⟨_, _, rfl, rfl⟩

set_option maxRecDepth 100000 in
set_option maxHeartbeats 1000000 in
theorem BForget_calls {w0 w : World} {l : List HProp} (pb pt pw pv : Nat) (ao : Option Addr) (c : Nat) (xs : List Val) (n1 n2 n3 n4 n5 n6 n7 n8 n9 n10 n11 : Int) (tb : TabS) (slot : Int) (hs : Sat w0 w ((Blk pb (.cells #[.slice ao xs.length c, .int .i64 n1, .int .i64 n2, .int .i64 n3, .int .i64 n4, .int .i64 n5, .int .i64 n6, .int .i64 n7, .int .i64 n8, .int .i64 n9, .int .i64 n10, .int .i64 n11, .pointer (some ⟨pt, 0, none⟩), .pointer (some ⟨pw, 0, none⟩), .pointer (some ⟨pv, 0, none⟩)] 131 (0, 0))) :: (TabObj pv tb) :: l)) (hs0 : slot ≤ 9223372036854775807) :
  Calls Try.prog 70 #[.pointer (some ⟨pb, 0, none⟩), .int .i64 slot] w (Ret w0 fun v l' => v = .tuple #[] ∧ l' = Blk pb (.cells #[.slice ao xs.length c, .int .i64 n1, .int .i64 n2, .int .i64 n3, .int .i64 n4, .int .i64 n5, .int .i64 n6, .int .i64 n7, .int .i64 n8, .int .i64 n9, .int .i64 n10, .int .i64 n11, .pointer (some ⟨pt, 0, none⟩), .pointer (some ⟨pw, 0, none⟩), .pointer (some ⟨pv, 0, none⟩)] 131 (0, 0)) :: TabObj pv (tb.forget slot) :: l) := by
 refine calls_enter Try.func70 rfl rfl rfl hs ?_
 refine Zc ?_
 refine oq (op_nenil Try.underlying67 rfl rfl) ?_
 refine Z23 ?_
 refine Z61 ?_
 refine Zr ?_
 refine oq (op_field fld_131_3 rfl) ?_
 refine oq (op_ld 0 sc_79 rfl rfl rfl) ?_
 refine Z4 ?_
 refine Z8 ?_
 refine oi (os_call cb_92 rfl (fun w s => Forget_calls _ _ _  s (by omega))) ?_; rintro _ _ ⟨rfl, rfl⟩
 refine ol_nil ?_
 exact px_end0 rfl (fun _ s => (s.pull 1)) ⟨rfl, rfl⟩

set_option maxRecDepth 100000 in
set_option maxHeartbeats 1000000 in
theorem BHead_calls {w0 w : World} {l : List HProp} (pb pt pw pv : Nat) (ao : Option Addr) (c : Nat) (xs : List Val) (n1 n2 n3 n4 n5 n6 n7 n8 n9 n10 n11 : Int) (t : TreeS) (o : List Int) (hs : Sat w0 w ((Blk pb (.cells #[.slice ao xs.length c, .int .i64 n1, .int .i64 n2, .int .i64 n3, .int .i64 n4, .int .i64 n5, .int .i64 n6, .int .i64 n7, .int .i64 n8, .int .i64 n9, .int .i64 n10, .int .i64 n11, .pointer (some ⟨pt, 0, none⟩), .pointer (some ⟨pw, 0, none⟩), .pointer (some ⟨pv, 0, none⟩)] 131 (0, 0))) :: (TreeObj pt t) :: (WObj pw pt t.nodes o) :: l)) (h1 : o.length ≤ t.nodes.length) (h0 : 0 < o.length) :
  Calls Try.prog 38 #[.pointer (some ⟨pb, 0, none⟩)] w (Ret w0 fun v l' => v = .agg (rootC (headW t.nodes o)).toArray ∧ l' = Blk pb (.cells #[.slice ao xs.length c, .int .i64 n1, .int .i64 n2, .int .i64 n3, .int .i64 n4, .int .i64 n5, .int .i64 n6, .int .i64 n7, .int .i64 n8, .int .i64 n9, .int .i64 n10, .int .i64 n11, .pointer (some ⟨pt, 0, none⟩), .pointer (some ⟨pw, 0, none⟩), .pointer (some ⟨pv, 0, none⟩)] 131 (0, 0)) :: TreeObj pt t :: WObj pw pt t.nodes o :: l) := by
 refine calls_enter Try.func38 rfl rfl rfl hs ?_
 refine Z0 ?_
 refine Z1n ?_; intro bx1
 refine Z1 ?_
 refine Z1q ?_
 refine Z6k ?_
 refine Z25 ?_
 refine Z20 ?_
 refine oq (op_field fld_131_2 rfl) ?_
 refine oq (op_ld 1 sc_27 rfl rfl rfl) ?_
 refine Zo ?_
 refine Zo ?_
 refine oi (os_call cb_22 rfl (fun w s => Head_calls _ _ _ _  s (by first | assumption | omega) (by first | assumption | omega))) ?_; rintro _ _ ⟨rfl, rfl⟩
 refine Zs ?_
 refine Z54 ?_
 exact px_rv1 rfl (rv_cella 0 ag_24 rfl rfl (rootC_take' _) (by simp [rootC_len])) (l' := Blk pb (.cells #[.slice ao xs.length c, .int .i64 n1, .int .i64 n2, .int .i64 n3, .int .i64 n4, .int .i64 n5, .int .i64 n6, .int .i64 n7, .int .i64 n8, .int .i64 n9, .int .i64 n10, .int .i64 n11, .pointer (some ⟨pt, 0, none⟩), .pointer (some ⟨pw, 0, none⟩), .pointer (some ⟨pv, 0, none⟩)] 131 (0, 0)) :: TreeObj pt t :: WObj pw pt t.nodes o :: l) (fun _ s => ((((s.del 0).pull 1).pull 1).pull 2)) ⟨rfl, rfl⟩

set_option maxRecDepth 100000 in
set_option maxHeartbeats 1000000 in
theorem BWeight_calls {w0 w : World} {l : List HProp} (pb pt pw pv : Nat) (ao : Option Addr) (c : Nat) (xs : List Val) (n1 n2 n3 n4 n5 n6 n7 n8 n9 n10 n11 : Int) (t : TreeS) (o : List Int) (r : Root) (hs : Sat w0 w ((Blk pb (.cells #[.slice ao xs.length c, .int .i64 n1, .int .i64 n2, .int .i64 n3, .int .i64 n4, .int .i64 n5, .int .i64 n6, .int .i64 n7, .int .i64 n8, .int .i64 n9, .int .i64 n10, .int .i64 n11, .pointer (some ⟨pt, 0, none⟩), .pointer (some ⟨pw, 0, none⟩), .pointer (some ⟨pv, 0, none⟩)] 131 (0, 0))) :: (TreeObj pt t) :: (WObj pw pt t.nodes o) :: l))  :
  Calls Try.prog 37 #[.pointer (some ⟨pb, 0, none⟩), .agg (rootC r).toArray] w (Ret w0 fun v l' => v = .int .i64 (ofF t o.length (sumN t.nodes o) r) ∧ l' = Blk pb (.cells #[.slice ao xs.length c, .int .i64 n1, .int .i64 n2, .int .i64 n3, .int .i64 n4, .int .i64 n5, .int .i64 n6, .int .i64 n7, .int .i64 n8, .int .i64 n9, .int .i64 n10, .int .i64 n11, .pointer (some ⟨pt, 0, none⟩), .pointer (some ⟨pw, 0, none⟩), .pointer (some ⟨pv, 0, none⟩)] 131 (0, 0)) :: TreeObj pt t :: WObj pw pt t.nodes o :: l) := by
 refine calls_enter Try.func37 rfl rfl rfl hs ?_
 refine Z46 ?_; intro bx1
 refine Z6k ?_
 refine Z37 ?_
 refine Zl ?_
 refine Z9i ?_
 refine Z6 ?_
 refine Zan ?_
 refine Zao ?_
 refine Z10 ?_
 refine rg_i (wn_none rfl) (os_back (os_pull3 (os_pull3 (os_call cb_28 rfl (fun w s => Weight_calls _ _ _ _ _  s )))) (fun _ s => ((((s.pull 1).pull 1).pull 3).pull 3))) rfl rfl ?_; rintro _ _ ⟨rfl, rfl⟩; refine ⟨[], rfl, ?_⟩
 refine Z3y ?_
 refine cd_ret ?_
 exact px_ret1 rfl (v := .int _ _) rfl (fun _ s => (s.del 0)) ⟨rfl, rfl⟩

set_option maxRecDepth 100000 in
set_option maxHeartbeats 1000000 in
theorem BTree_calls {w0 w : World} {l : List HProp} (pb pt pw pv : Nat) (ao : Option Addr) (c : Nat) (xs : List Val) (n1 n2 n3 n4 n5 n6 n7 n8 n9 n10 n11 : Int) (hs : Sat w0 w ((Blk pb (.cells #[.slice ao xs.length c, .int .i64 n1, .int .i64 n2, .int .i64 n3, .int .i64 n4, .int .i64 n5, .int .i64 n6, .int .i64 n7, .int .i64 n8, .int .i64 n9, .int .i64 n10, .int .i64 n11, .pointer (some ⟨pt, 0, none⟩), .pointer (some ⟨pw, 0, none⟩), .pointer (some ⟨pv, 0, none⟩)] 131 (0, 0))) :: l))  :
  Calls Try.prog 36 #[.pointer (some ⟨pb, 0, none⟩)] w (Ret w0 fun v l' => v = .pointer (some ⟨pt, 0, none⟩) ∧ l' = Blk pb (.cells #[.slice ao xs.length c, .int .i64 n1, .int .i64 n2, .int .i64 n3, .int .i64 n4, .int .i64 n5, .int .i64 n6, .int .i64 n7, .int .i64 n8, .int .i64 n9, .int .i64 n10, .int .i64 n11, .pointer (some ⟨pt, 0, none⟩), .pointer (some ⟨pw, 0, none⟩), .pointer (some ⟨pv, 0, none⟩)] 131 (0, 0)) :: l) := by
 refine calls_enter Try.func36 rfl rfl rfl hs ?_
 refine Z38 ?_
 refine Z1 ?_
 refine Z1q ?_
 refine Z6k ?_
 refine Z25 ?_
 refine Z20 ?_
 refine oq (op_field fld_131_1 rfl) ?_
 refine oq (op_ld 0 sc_26 rfl rfl rfl) ?_
 refine Zd ?_
 refine Z1z ?_
 exact px_ret1 rfl (v := .pointer _) rfl (fun _ s => s) ⟨rfl, rfl⟩

set_option maxRecDepth 100000 in
set_option maxHeartbeats 1000000 in
theorem BTable_calls {w0 w : World} {l : List HProp} (pb pt pw pv : Nat) (ao : Option Addr) (c : Nat) (xs : List Val) (n1 n2 n3 n4 n5 n6 n7 n8 n9 n10 n11 : Int) (hs : Sat w0 w ((Blk pb (.cells #[.slice ao xs.length c, .int .i64 n1, .int .i64 n2, .int .i64 n3, .int .i64 n4, .int .i64 n5, .int .i64 n6, .int .i64 n7, .int .i64 n8, .int .i64 n9, .int .i64 n10, .int .i64 n11, .pointer (some ⟨pt, 0, none⟩), .pointer (some ⟨pw, 0, none⟩), .pointer (some ⟨pv, 0, none⟩)] 131 (0, 0))) :: l))  :
  Calls Try.prog 39 #[.pointer (some ⟨pb, 0, none⟩)] w (Ret w0 fun v l' => v = .pointer (some ⟨pv, 0, none⟩) ∧ l' = Blk pb (.cells #[.slice ao xs.length c, .int .i64 n1, .int .i64 n2, .int .i64 n3, .int .i64 n4, .int .i64 n5, .int .i64 n6, .int .i64 n7, .int .i64 n8, .int .i64 n9, .int .i64 n10, .int .i64 n11, .pointer (some ⟨pt, 0, none⟩), .pointer (some ⟨pw, 0, none⟩), .pointer (some ⟨pv, 0, none⟩)] 131 (0, 0)) :: l) := by
 refine calls_enter Try.func39 rfl rfl rfl hs ?_
 refine Z38 ?_
 refine Z1 ?_
 refine Z1q ?_
 refine Z6k ?_
 refine Z25 ?_
 refine Z20 ?_
 refine oq (op_field fld_131_3 rfl) ?_
 refine oq (op_ld 0 sc_79 rfl rfl rfl) ?_
 refine Zd ?_
 refine Z1z ?_
 exact px_ret1 rfl (v := .pointer _) rfl (fun _ s => s) ⟨rfl, rfl⟩
end Go.SL

set_option linter.unusedVariables false
set_option linter.unusedSimpArgs false
namespace Go.SL
theorem goodC_bd {V : SlV} {a0 a1 a2 a3 a4 a5 a6 a7 a8 a9 a10 : Int} {xs : List Val} (h : goodC ⟨V, a0, a1, a2, a3, a4, a5, a6, a7, a8, a9, a10⟩ xs = true) :
    ((1 ≤ a0 ∧ a0 ≤ 32) ∧ (1 ≤ a1 ∧ a1 ≤ 16 ∧ a1 ≤ xs.length) ∧ (1 ≤ a2 ∧ a2 ≤ 256) ∧ (1 ≤ a3 ∧ a3 ≤ 64) ∧ (1 ≤ a4 ∧ a4 ≤ 64) ∧ (1 ≤ a5 ∧ a5 ≤ 64)) ∧ ((1 ≤ a6 ∧ a6 ≤ 16) ∧ (1 ≤ a7 ∧ a7 ≤ 256) ∧ (1 ≤ a8 ∧ a8 ≤ 64) ∧ (1 ≤ a9 ∧ a9 ≤ 1048576) ∧ (1 ≤ a10 ∧ a10 ≤ 1048576)) ∧ (1 ≤ xs.length ∧ xs.length ≤ 64) ∧ (∀ y ∈ xs, y.key.length ≤ 32) := by
  have hv := (goodC_rg h).2.2
  unfold goodC numsC inR at h
  simp at h
  refine ⟨by omega, by omega, by omega, fun y hy => ?_⟩
  have := hv y hy
  unfold valOK at this
  have := of_decide_eq_true this
  exact this.2.2
theorem sg_stk (xs : List Val) : ∀ k, k ≤ xs.length → sg (stk xs) k = sumV (xs.take k) := by
  intro k
  induction k with
  | zero => intro _; rfl
  | succ k ih =>
    intro hk
    rw [sg_succ, ih (by omega), List.take_succ_eq_append_getElem (by omega), sumV_append, stk_get (by omega)]
    simp [sumV]
theorem goodC_stk {q : Cfg} {xs : List Val} (h : goodC q xs = true) : StkOK xs := by
  have h1 : (totF 0 xs).isSome = true := by unfold goodC at h; rw [Bool.and_eq_true] at h; exact h.1
  have h2 := totF_iff (xs := xs) (s := 0) (by decide) (by decide)
  have h3 : (∀ v ∈ xs, valOK v = true) ∧ 0 + sumV xs < 4611686018427387904 := by
    by_cases e : (∀ v ∈ xs, valOK v = true) ∧ 0 + sumV xs < 4611686018427387904
    · exact e
    · rw [if_neg e] at h2; rw [h2] at h1; cases h1
  refine ⟨fun w => ?_, ?_⟩
  · rcases Nat.lt_or_ge w xs.length with hw | hw
    · rw [stk_get hw]
      have := h3.1 _ (List.getElem_mem hw)
      unfold valOK at this
      exact (of_decide_eq_true this).1
    · unfold stk
      rw [List.getD_eq_getElem?_getD, List.getElem?_eq_none hw]
      show (0 : Int) ≤ 0
      omega
  · rw [sg_stk xs _ (Nat.le_refl _), List.take_length]; have := h3.2; omega
theorem newB_own {xs : List Val} {g : Root} {nodes ep : Int} {n : Nat} : ownE xs (effT (TabS.new n ep)) (TreeS.new g 0 nodes).nodes = growO (TreeS.new g 0 nodes).nodes.length [] := by
  rw [new_eff]; exact ownE_none _
end Go.SL

set_option linter.unusedVariables false
set_option linter.unusedSimpArgs false
namespace Go.SL
theorem place_pr {t : TreeS} (hw : t.WF) {a i : Nat} (hi : i < t.nodes.length) : (prT t a).place (rtA t.nodes i) = if belI t.nodes a (i : Int) = true then ((rk t.nodes a i : Nat) : Int) else -1 := by
  unfold TreeS.place prT
  dsimp only
  rw [idx_prN hw (Nat.le_refl _) hi]
  by_cases h : belI t.nodes a (i : Int) = true
  · rw [if_pos ⟨hi, h⟩, if_pos h]
  · rw [if_neg (fun q => h q.2), if_neg h]
theorem rt_of_idx {t : TreeS} {r : Root} {b : Nat} (h : idxOf t.nodes r = some b) : rtA t.nodes b = r := by
  obtain ⟨n, h1, h2⟩ := idxOf_some h
  unfold rtA; rw [h1]; exact h2
theorem below_rt {t : TreeS} (hw : t.WF) {a i : Nat} {o : Root} (hia : idxOf t.nodes o = some a) (hi : i < t.nodes.length) : t.below o (rtA t.nodes i) = belI t.nodes a (i : Int) := by
  rw [← rt_of_idx hia]; exact below_at hw (idxOf_lt hia) hi
theorem bestR_pr {t : TreeS} (hw : t.WF) {a i : Nat} {o : List Int} (ha : a < t.nodes.length) (hl : o.length = t.nodes.length) (hi : i < t.nodes.length) (hb : belI t.nodes a (i : Int) = true) : bestR (prT t a) (prO t.nodes a o) (rtA t.nodes i) = bestR t o (rtA t.nodes i) := by
  have hw2 := prT_wf hw ha
  have hn := prT_len t a
  have e1 : rtA (prT t a).nodes (rk t.nodes a i) = rtA t.nodes i := rt_pr hi hb
  have hki := rk_lt hi hb
  have h1 := bestR_at hw2 (o := prO t.nodes a o) (i := rk t.nodes a i) (by omega) (by rw [prO_len]; exact hki)
  rw [e1] at h1
  have h2 := best_pr hw ha (sumPr_at hw ha hl) hi hb
  rw [h1, bestR_at hw hi (by omega), prO_len, h2, hl]
  rcases bestN_rg hw.nd hw.pa (oA (sumL t.nodes o)) (Nat.le_refl _) i with h | ⟨k, h, h3, h4, h5⟩
  · rw [h]; unfold mvI; rfl
  · have hai := belI_le hb
    have hkb : belI t.nodes a (k : Int) = true := by rw [belI_pr hw.pa h4 (by omega), h5]; exact hb
    rw [h]
    unfold mvI
    rw [if_neg (show ¬ ((k : Int) < 0) by omega), if_neg (show ¬ (((rk t.nodes a (k : Int).toNat : Nat) : Int) < 0) by omega), if_neg (show ¬ ((k : Int) < 0) by omega), Int.toNat_natCast, Int.toNat_natCast]
    rw [show rtA (prT t a).nodes (rk t.nodes a k) = rtA t.nodes k from rt_pr h4 hkb]
theorem weight_pr {t : TreeS} (hw : t.WF) {a i : Nat} {o : List Int} (ha : a < t.nodes.length) (hl : o.length = t.nodes.length) (hi : i < t.nodes.length) (hb : belI t.nodes a (i : Int) = true) : ofF (prT t a) (prO t.nodes a o).length (sumN (prT t a).nodes (prO t.nodes a o)) (rtA t.nodes i) = ofF t o.length (sumN t.nodes o) (rtA t.nodes i) := by
  have hw2 := prT_wf hw ha
  have hn := prT_len t a
  have e1 : rtA (prT t a).nodes (rk t.nodes a i) = rtA t.nodes i := rt_pr hi hb
  have hki := rk_lt hi hb
  rw [← e1, ofF_rt hw2 (by omega) (by rw [prO_len]; exact hki), e1, ofF_rt hw hi (by omega)]
  exact sum_pr hw.pa (by omega) hi hb
theorem leaf_lt {t : TreeS} (hw : t.WF) {o : List Int} (hl : o.length = t.nodes.length) : leafN t.nodes (oA (sumL t.nodes o)) o.length 0 < t.nodes.length := by
  rw [hl]; exact leafN_lt hw.nd hw.pa (Nat.le_refl _) hw.ne
theorem keep_head {t : TreeS} (hw : t.WF) {a : Nat} {o : List Int} (ha : a < t.nodes.length) (hl : o.length = t.nodes.length) (hb : belI t.nodes a ((leafN t.nodes (oA (sumL t.nodes o)) o.length 0 : Nat) : Int) = true) : headW (prT t a).nodes (prO t.nodes a o) = headW t.nodes o := by
  rw [head_pr hw ha hl]
  unfold headW
  rw [hl] at hb ⊢
  rw [leaf_same hw ha _ 0 rfl hw.ne (belI_zero hw.pa ha) hb]
theorem prO_le {t : TreeS} (a : Nat) (o : List Int) : (prO t.nodes a o).length ≤ (prT t a).nodes.length := by rw [prO_len, prT_len]; exact Nat.le_refl _
theorem prO_pos {t : TreeS} {a : Nat} (ha : a < t.nodes.length) (o : List Int) : 0 < (prO t.nodes a o).length := by rw [prO_len]; have := rk_lt (ns := t.nodes) ha belI_eq; omega
def alM : List PBlk := [⟨1, 0, 1, 5⟩, ⟨2, 0, 1, 3⟩, ⟨3, 1, 2, 4⟩]
end Go.SL

set_option linter.unusedVariables false
set_option linter.unusedSimpArgs false
namespace Go.SL
open Go.Proofs

/-- the reference's weights: their block and row -/
def RWObj (pm pr : Nat) (o : List Int) : HProp := ex fun x : Option Addr × Nat => match x with | (a4, c4) => stars [Blk pm (.cells #[.pointer (some ⟨pr, 0, none⟩), .slice a4 o.length c4, .int .i64 (o.length : Int)] 47 (0, 0)), Row 3 encI64 (.slice a4 o.length c4) o]
theorem Sat.rwOpen {w0 w : World} {l : List HProp} {pm pr : Nat} {o : List Int} (s : Sat w0 w (RWObj pm pr o :: l)) : ∃ a4 c4, Sat w0 w (Blk pm (.cells #[.pointer (some ⟨pr, 0, none⟩), .slice a4 o.length c4, .int .i64 (o.length : Int)] 47 (0, 0)) :: Row 3 encI64 (.slice a4 o.length c4) o :: l) := by
 obtain ⟨⟨a4, c4⟩, s⟩ := Sat.ex_iff.1 s
 exact ⟨a4, c4, Sat.stars_iff.1 s⟩
theorem Sat.rwMk {w0 w : World} {l : List HProp} {pm pr : Nat} {o : List Int} {a4 : Option Addr} {c4 m1 m2 : Nat} (h1 : m1 = o.length) (h2 : m2 = o.length) (s : Sat w0 w (Blk pm (.cells #[.pointer (some ⟨pr, 0, none⟩), .slice a4 m1 c4, .int .i64 (m2 : Int)] 47 (0, 0)) :: Row 3 encI64 (.slice a4 m1 c4) o :: l)) : Sat w0 w (RWObj pm pr o :: l) := by
 subst h1 h2
 exact Sat.ex_iff.2 ⟨(a4, c4), Sat.stars_iff.2 s⟩

set_option maxRecDepth 100000 in
set_option maxHeartbeats 1000000 in
theorem RplW_calls {w0 w : World} {l : List HProp} (pm pr : Nat) (t : TreeS) (a1 a2 a3 a4 : Option Addr) (c1 c2 c3 c4 : Nat) (R : List Root) (Sl : List Int) (Pa : List Root) (o : List Int) (r : Root) (hs : Sat w0 w ((Blk pr (.cells #[.slice a1 R.length c1, .slice a2 Sl.length c2, .slice a3 Pa.length c3, .int .i64 t.most] 44 (0, 0))) :: (Row 24 encRoot (.slice a1 R.length c1) R) :: (Row 3 encI64 (.slice a2 Sl.length c2) Sl) :: (Row 24 encRoot (.slice a3 Pa.length c3) Pa) :: (Blk pm (.cells #[.pointer (some ⟨pr, 0, none⟩), .slice a4 o.length c4, .int .i64 (o.length : Int)] 47 (0, 0))) :: (Row 3 encI64 (.slice a4 o.length c4) o) :: l)) (hw : t.WF) (hR : RTreeOf t R Sl Pa) (h1 : o.length ≤ t.nodes.length) :
  Calls Try.prog 59 #[.pointer (some ⟨pm, 0, none⟩), .agg (rootC r).toArray] w (Ret w0 fun v l' => v = .int .i64 (rplW t o.length r) ∧ l' = Blk pr (.cells #[.slice a1 R.length c1, .slice a2 Sl.length c2, .slice a3 Pa.length c3, .int .i64 t.most] 44 (0, 0)) :: Row 24 encRoot (.slice a1 R.length c1) R :: Row 3 encI64 (.slice a2 Sl.length c2) Sl :: Row 24 encRoot (.slice a3 Pa.length c3) Pa :: Blk pm (.cells #[.pointer (some ⟨pr, 0, none⟩), .slice a4 o.length c4, .int .i64 (o.length : Int)] 47 (0, 0)) :: Row 3 encI64 (.slice a4 o.length c4) o :: l) := by
 have hle := hw.le; have hm2 := hw.m2; have hpa := hw.pa; have hnd := hw.nd
 have hRl : R.length = t.nodes.length := by rw [hR.r, List.length_map]
 have hSl : Sl.length = t.nodes.length := by rw [hR.s, List.length_map]
 have hPl : Pa.length = t.nodes.length := by rw [hR.p]; unfold parR; rw [List.length_map]
 have hpl : ∀ r, rplace R r = t.place r := fun r => by rw [hR.r, rplace_map]
 refine calls_enter Try.func59 rfl rfl rfl hs ?_
 refine Z18 ?_; intro bx1
 refine Zb ?_
 refine Z7 ?_
 refine Z9i ?_
 refine Z6 ?_
 refine Z9j ?_
 refine rg_q (wn_none rfl) (op_ld 5 sc_45 rfl rfl rfl) rfl rfl ?_
 refine Z10 ?_
 refine rg_i (wn_none rfl) (os_back (os_pull2 (os_pull2 (os_call cb_49 rfl (fun w s => RPlaceO_calls _ _ _ _ _ _ _ _  s )))) (fun _ s => (((((((s.pull 6).pull 6).pull 6).pull 6).pull 5).pull 5).pull 6))) rfl rfl ?_; rintro _ _ ⟨rfl, rfl⟩; rw [hpl]; refine ⟨[], rfl, ?_⟩
 refine Z3y ?_
 refine Zu ?_
 refine Z1k ?_
 refine Zr ?_
 refine oq (op_field fld_47_2 rfl) ?_
 refine oq (op_ld 5 sc_3 rfl rfl rfl) ?_
 refine Z3p ?_
 refine cd_cond rfl (fun hb1 => ?_) (fun hb1 => ?_)
 ·have hp1 := hb1
  (try simp only [bn] at hp1)
  refine Z24 ?_
  exact px_ret1 rfl (v := .int _ _) rfl (fun _ s => (s.del 0)) ⟨congrArg (Value.int .i64) (by unfold rplW; rw [if_pos (by omega)]), rfl⟩
 have hp1 := hb1
 (try simp only [bn] at hp1)
 refine Z44 ?_
 exact px_ret1 rfl (v := .int _ _) rfl (fun _ s => (s.del 0)) ⟨congrArg (Value.int .i64) (by unfold rplW; rw [if_neg (by omega)]), rfl⟩

end Go.SL

set_option linter.unusedVariables false
set_option linter.unusedSimpArgs false
namespace Go.SL
open Go.Proofs

set_option maxRecDepth 100000 in
set_option maxHeartbeats 1000000 in
theorem RWNew_calls {w0 w : World} {l : List HProp} (pr : Nat) (t : TreeS) (hs : Sat w0 w ((RTreeObj pr t) :: l))  :
  Calls Try.prog 51 #[.pointer (some ⟨pr, 0, none⟩)] w (Ret w0 fun v l' => ∃ pm, v = .pointer (some ⟨pm, 0, none⟩) ∧ l' = RWObj pm pr (growO t.nodes.length []) :: RTreeObj pr t :: l) := by
 obtain ⟨a1, c1, a2, c2, a3, c3, R, Sl, Pa, hw, hR, hs⟩ := hs.rtreeOpen
 have hle := hw.le; have hm2 := hw.m2; have hpa := hw.pa; have hnd := hw.nd
 have hRl : R.length = t.nodes.length := by rw [hR.r, List.length_map]
 have hSl : Sl.length = t.nodes.length := by rw [hR.s, List.length_map]
 have hPl : Pa.length = t.nodes.length := by rw [hR.p]; unfold parR; rw [List.length_map]
 have hpl : ∀ r, rplace R r = t.place r := fun r => by rw [hR.r, rplace_map]
 refine calls_enter Try.func51 rfl rfl rfl hs ?_
 refine Z38 ?_
 refine Z4m ?_
 refine cd_drawt (M := []) mx [6] 13 (by kernel_rfl) rfl rfl ?_
 dsimp only [List.take_succ_cons, List.take_zero, List.drop_succ_cons, List.drop_zero]
 refine Ze ?_
 refine Z6 ?_
 refine Z7e ?_
 refine Z7f ?_
 refine rg_q (wn_none rfl) (op_len_slice Try.underlying37 rfl) rfl rfl ?_
 refine rg_i (wn_none rfl) (os_make (E := encI64) (R.length) (0) sB_42 zv_3 rfl rfl rfl rfl (by omega) (by unfold maxLen; omega)) rfl rfl ?_; rintro _ _ ⟨ao1, rfl, rfl⟩; refine ⟨[_], rfl, ?_⟩
 refine Z6 ?_
 refine Z7e ?_
 refine Z7f ?_
 refine rg_q (wn_none rfl) (op_len_slice Try.underlying37 rfl) rfl rfl ?_
 refine rg_q (wn_none rfl) (op_build (L := [_, _, _]) (vs := [(0, .pointer _), (1, .slice _ _ _), (2, .int _ _)]) bB_47 rfl ⟨⟨rfl, rfl⟩, ⟨rfl, rfl⟩, ⟨rfl, rfl⟩, trivial⟩ rfl) rfl rfl ?_
 refine rg_tail1 ?_
 refine Z26 ?_; intro bx1
 refine Zd ?_
 refine Z1z ?_
 exact px_ret1 rfl (v := .pointer _) (l' := RWObj bx1 pr (growO t.nodes.length []) :: RTreeObj pr t :: l) rfl (fun _ s => by
  have s2 : Sat _ _ (Blk pr (.cells #[.slice a1 R.length c1, .slice a2 Sl.length c2, .slice a3 Pa.length c3, .int .i64 t.most] 44 (0, 0)) :: Row 24 encRoot (.slice a1 R.length c1) R :: Row 3 encI64 (.slice a2 Sl.length c2) Sl :: Row 24 encRoot (.slice a3 Pa.length c3) Pa :: Blk bx1 _ :: Row _ _ _ _ :: l) := ((((((s.pull 1).pull 1).pull 5).pull 5).pull 5).pull 5)
  have s3 := Sat.rtreeMk hw hR rfl rfl rfl s2
  have s4 : Sat _ _ (RWObj bx1 pr (growO t.nodes.length []) :: RTreeObj pr t :: l) := Sat.rwMk (m1 := (List.replicate R.length (0 : Int)).length) (m2 := R.length) (by rw [hRl]; simp [growO]) (by rw [hRl]; simp [growO]) (by have s5 := (s3.pull 2).pull 2; rw [show growO t.nodes.length [] = List.replicate R.length 0 by rw [hRl]; rfl]; exact s5)
  exact s4) ⟨_, rfl, rfl⟩

end Go.SL

set_option linter.unusedVariables false
set_option linter.unusedSimpArgs false
namespace Go.SL
open Go.Proofs

theorem cd_rwOpen {w0 : World} {n : Nat} {Q : Exit → Act → World → Prop} {f : Fr} {c : Code} {l : List HProp} {pm pr : Nat} {o : List Int} (h : ∀ a4 c4, CD Try.prog w0 n c Q f (Blk pm (.cells #[.pointer (some ⟨pr, 0, none⟩), .slice a4 o.length c4, .int .i64 (o.length : Int)] 47 (0, 0)) :: Row 3 encI64 (.slice a4 o.length c4) o :: l)) : CD Try.prog w0 n c Q f (RWObj pm pr o :: l) := fun a w r s =>
 let ⟨a4, c4, s'⟩ := s.rwOpen
 h a4 c4 a w r s'
theorem cd_rtreeOpen {w0 : World} {n : Nat} {Q : Exit → Act → World → Prop} {f : Fr} {c : Code} {l : List HProp} {pr : Nat} {t : TreeS} (h : ∀ a1 c1 a2 c2 a3 c3 R Sl Pa, t.WF → RTreeOf t R Sl Pa → CD Try.prog w0 n c Q f (Blk pr (.cells #[.slice a1 R.length c1, .slice a2 Sl.length c2, .slice a3 Pa.length c3, .int .i64 t.most] 44 (0, 0)) :: Row 24 encRoot (.slice a1 R.length c1) R :: Row 3 encI64 (.slice a2 Sl.length c2) Sl :: Row 24 encRoot (.slice a3 Pa.length c3) Pa :: l)) : CD Try.prog w0 n c Q f (RTreeObj pr t :: l) := fun a w r s =>
 let ⟨a1, c1, a2, c2, a3, c3, R, Sl, Pa, hw, hR, s'⟩ := s.rtreeOpen
 h a1 c1 a2 c2 a3 c3 R Sl Pa hw hR a w r s'
theorem Sat.rwtPack {w0 w : World} {l : List HProp} {pm pr : Nat} {t : TreeS} {a1 a2 a3 a4 : Option Addr} {c1 c2 c3 c4 : Nat} {R : List Root} {Sl : List Int} {Pa : List Root} {o : List Int} (hw : t.WF) (hR : RTreeOf t R Sl Pa) (s : Sat w0 w (Blk pm (.cells #[.pointer (some ⟨pr, 0, none⟩), .slice a4 o.length c4, .int .i64 (o.length : Int)] 47 (0, 0)) :: Row 3 encI64 (.slice a4 o.length c4) o :: Blk pr (.cells #[.slice a1 R.length c1, .slice a2 Sl.length c2, .slice a3 Pa.length c3, .int .i64 t.most] 44 (0, 0)) :: Row 24 encRoot (.slice a1 R.length c1) R :: Row 3 encI64 (.slice a2 Sl.length c2) Sl :: Row 24 encRoot (.slice a3 Pa.length c3) Pa :: l)) : Sat w0 w (RTreeObj pr t :: RWObj pm pr o :: l) := by
 have s2 : Sat _ _ (RWObj pm pr o :: Blk pr (.cells #[.slice a1 R.length c1, .slice a2 Sl.length c2, .slice a3 Pa.length c3, .int .i64 t.most] 44 (0, 0)) :: Row 24 encRoot (.slice a1 R.length c1) R :: Row 3 encI64 (.slice a2 Sl.length c2) Sl :: Row 24 encRoot (.slice a3 Pa.length c3) Pa :: l) := Sat.rwMk rfl rfl s
 have s3 : Sat _ _ (Blk pr (.cells #[.slice a1 R.length c1, .slice a2 Sl.length c2, .slice a3 Pa.length c3, .int .i64 t.most] 44 (0, 0)) :: Row 24 encRoot (.slice a1 R.length c1) R :: Row 3 encI64 (.slice a2 Sl.length c2) Sl :: Row 24 encRoot (.slice a3 Pa.length c3) Pa :: RWObj pm pr o :: l) := (((s2.pull 4).pull 4).pull 4).pull 4
 exact Sat.rtreeMk hw hR rfl rfl rfl s3

set_option maxRecDepth 100000 in
set_option maxHeartbeats 1000000 in
theorem ROwnOfO_calls {w0 w : World} {l : List HProp} (pm pr : Nat) (t : TreeS) (a1 a2 a3 a4 : Option Addr) (c1 c2 c3 c4 : Nat) (R : List Root) (Sl : List Int) (Pa : List Root) (o : List Int) (r : Root) (hs : Sat w0 w ((Blk pr (.cells #[.slice a1 R.length c1, .slice a2 Sl.length c2, .slice a3 Pa.length c3, .int .i64 t.most] 44 (0, 0))) :: (Row 24 encRoot (.slice a1 R.length c1) R) :: (Row 3 encI64 (.slice a2 Sl.length c2) Sl) :: (Row 24 encRoot (.slice a3 Pa.length c3) Pa) :: (Blk pm (.cells #[.pointer (some ⟨pr, 0, none⟩), .slice a4 o.length c4, .int .i64 (o.length : Int)] 47 (0, 0))) :: (Row 3 encI64 (.slice a4 o.length c4) o) :: l)) (hw : t.WF) (hR : RTreeOf t R Sl Pa) (h1 : o.length ≤ t.nodes.length) :
  Calls Try.prog 27 #[.pointer (some ⟨pm, 0, none⟩), .agg (rootC r).toArray] w (Ret w0 fun v l' => v = .int .i64 (ofF t o.length (oA o) r) ∧ l' = Blk pr (.cells #[.slice a1 R.length c1, .slice a2 Sl.length c2, .slice a3 Pa.length c3, .int .i64 t.most] 44 (0, 0)) :: Row 24 encRoot (.slice a1 R.length c1) R :: Row 3 encI64 (.slice a2 Sl.length c2) Sl :: Row 24 encRoot (.slice a3 Pa.length c3) Pa :: Blk pm (.cells #[.pointer (some ⟨pr, 0, none⟩), .slice a4 o.length c4, .int .i64 (o.length : Int)] 47 (0, 0)) :: Row 3 encI64 (.slice a4 o.length c4) o :: l) := by
 have hle := hw.le; have hm2 := hw.m2; have hpa := hw.pa; have hnd := hw.nd; have hne := hw.ne
 have hRl : R.length = t.nodes.length := by rw [hR.r, List.length_map]
 have hSl : Sl.length = t.nodes.length := by rw [hR.s, List.length_map]
 have hPl : Pa.length = t.nodes.length := by rw [hR.p]; unfold parR; rw [List.length_map]
 have hpl : ∀ r, rplace R r = t.place r := fun r => by rw [hR.r, rplace_map]
 have hrp := ofF_rpl (t := t) (n := o.length) (f := (oA o)) (r := r)
 refine calls_enter Try.func27 rfl rfl rfl hs ?_
 refine Z46 ?_; intro bx1
 refine Z2n ?_
 refine Z2b ?_
 refine Z2b ?_
 refine Z2b ?_
 refine Z2b ?_
 refine Z2b ?_
 refine Z2b ?_
 refine oi (os_call cb_59 rfl (fun w s => RplW_calls _ _ _ _ _ _ _ _ _ _ _ _ _ _ _ _  s (by assumption) (by assumption) (by assumption))) ?_; rintro _ _ ⟨rfl, rfl⟩
 refine Z1x ?_
 refine Z3p ?_
 refine cd_cond rfl (fun hb1 => ?_) (fun hb1 => ?_)
 ·have hp1 := hb1
  (try simp only [bn] at hp1)
  obtain ⟨i, hri, hin, hof⟩ : ∃ i : Nat, rplW t o.length r = i ∧ i < o.length ∧ ofF t o.length (oA o) r = (oA o) i := by
   rcases hrp with ⟨h, _⟩ | h
   ·omega
   exact h
  rw [hri]
  refine Z20 ?_
  refine oq (op_field fld_47_1 rfl) ?_
  refine oq (op_ld 4 sc_42 rfl rfl rfl) ?_
  refine Z4 ?_
  refine oq (op_index i sB_42 rfl rfl rfl (rds_row 5 rfl rfl) rfl (by omega)) ?_
  refine oq (op_ldw sc_3 (rds_row 5 rfl rfl) rfl (by omega) rfl) ?_
  refine Zt ?_
  refine Z17 ?_
  exact px_ret1 rfl (v := .int _ _) rfl (fun _ s => (s.del 6)) ⟨congrArg (Value.int .i64) (by rw [hof]; exact (oA_get _).symm), rfl⟩
 have hp1 := hb1
 (try simp only [bn] at hp1)
 refine Z9 ?_
 refine Z1f ?_
 exact px_ret1 rfl (v := .int _ _) rfl (fun _ s => (s.del 6)) ⟨congrArg (Value.int .i64) (by rcases hrp with ⟨_, h⟩ | ⟨i, h, _⟩; exact h.symm; omega), rfl⟩

set_option maxRecDepth 100000 in
set_option maxHeartbeats 1000000 in
theorem RPAllN_calls {w0 w : World} {l : List HProp} (pm pr : Nat) (t : TreeS) (o : List Int) (r : Root) (hs : Sat w0 w ((RTreeObj pr t) :: (RWObj pm pr o) :: l)) (hi : idxOf t.nodes r = none) :
  Calls Try.prog 18 #[.pointer (some ⟨pm, 0, none⟩), .agg (rootC r).toArray] w (Ret w0 fun v l' => v = .tuple #[.pointer none, .bool false] ∧ l' = RTreeObj pr t :: RWObj pm pr o :: l) := by
 obtain ⟨a1, c1, a2, c2, a3, c3, R, Sl, Pa, hw, hR, hs⟩ := hs.rtreeOpen
 obtain ⟨a4, c4, hs⟩ := (hs.pull 4).rwOpen
 have hle := hw.le; have hm2 := hw.m2; have hpa := hw.pa; have hnd := hw.nd; have hne := hw.ne
 have hRl : R.length = t.nodes.length := by rw [hR.r, List.length_map]
 have hSl : Sl.length = t.nodes.length := by rw [hR.s, List.length_map]
 have hPl : Pa.length = t.nodes.length := by rw [hR.p]; unfold parR; rw [List.length_map]
 have hpl : ∀ r, rplace R r = t.place r := fun r => by rw [hR.r, rplace_map]
 have hpl0 : t.place r = -1 := by unfold TreeS.place; rw [hi]
 refine calls_enter Try.func18 rfl rfl rfl hs ?_
 refine Z45 ?_; intro bx1
 refine Zf ?_
 refine Z7 ?_
 refine Z9i ?_
 refine Z6 ?_
 refine Z9j ?_
 refine Z8o ?_
 refine Z10 ?_
 refine rg_i (wn_none rfl) (os_back (os_pull4 (os_pull4 (os_call cb_49 rfl (fun w s => RPlaceO_calls _ _ _ _ _ _ _ _  s )))) (fun _ s => (((((((s.pull 6).pull 6).pull 3).pull 3).pull 6).pull 6).pull 6))) rfl rfl ?_; rintro _ _ ⟨rfl, rfl⟩; rw [hpl, hpl0]; refine ⟨[], rfl, ?_⟩
 refine Z3y ?_
 refine Zu ?_
 refine Z3g ?_
 refine cd_cond rfl (fun hb1 => ?_) (fun hb1 => ?_)
 ·have hp1 := hb1
  (try simp only [bn] at hp1)
  refine Z38 ?_
  refine Zp ?_
  exact px_ret2 rfl (v1 := .pointer _) (v2 := .bool _) (l' := RTreeObj pr t :: RWObj pm pr o :: l) rfl rfl (fun _ s => ((s.del 0)).rwtPack hw hR) ⟨rfl, rfl⟩
 have hp1 := hb1
 (try simp only [bn] at hp1)
 exact absurd hb1 (by decide)

set_option maxRecDepth 100000 in
set_option maxHeartbeats 1000000 in
theorem RPAllS_calls {w0 w : World} {l : List HProp} (pm pr : Nat) (t : TreeS) (o : List Int) (r : Root) (a : Nat) (hs : Sat w0 w ((RTreeObj pr t) :: (RWObj pm pr o) :: l)) (hi : idxOf t.nodes r = some a) (h1 : o.length ≤ t.nodes.length) :
  Calls Try.prog 18 #[.pointer (some ⟨pm, 0, none⟩), .agg (rootC r).toArray] w (Ret w0 fun v l' => ∃ qm qr, v = .tuple #[.pointer (some ⟨qm, 0, none⟩), .bool true] ∧ l' = RTreeObj qr (prT t a) :: RWObj qm qr (prO t.nodes a o) :: RTreeObj pr t :: RWObj pm pr o :: l) := by
 obtain ⟨a1, c1, a2, c2, a3, c3, R, Sl, Pa, hw, hR, hs⟩ := hs.rtreeOpen
 obtain ⟨a4, c4, hs⟩ := (hs.pull 4).rwOpen
 have hle := hw.le; have hm2 := hw.m2; have hpa := hw.pa; have hnd := hw.nd; have hne := hw.ne
 have hRl : R.length = t.nodes.length := by rw [hR.r, List.length_map]
 have hSl : Sl.length = t.nodes.length := by rw [hR.s, List.length_map]
 have hPl : Pa.length = t.nodes.length := by rw [hR.p]; unfold parR; rw [List.length_map]
 have hpl : ∀ r, rplace R r = t.place r := fun r => by rw [hR.r, rplace_map]
 have hla := idxOf_lt hi
 have hpl0 : t.place r = (a : Int) := by unfold TreeS.place; rw [hi]
 have hRr : ∀ q (h : q < R.length), R[q] = rtA t.nodes q := fun q h => by simp only [hR.r, List.getElem_map]; exact (rtA_get (by omega)).symm
 have hSr : ∀ q (h : q < Sl.length), Sl[q] = slA t.nodes q := fun q h => by simp only [hR.s, List.getElem_map]; exact (slA_get (by omega)).symm
 have hPr : ∀ q (h : q < Pa.length), q ≠ a → Pa[q] = upR t.nodes a q := fun q h hq => by unfold upR; rw [if_neg hq, List.getD_eq_getElem?_getD, List.getElem?_eq_getElem (by rw [← hR.p]; exact h)]; simp only [hR.p]; rfl
 refine calls_enter Try.func18 rfl rfl rfl hs ?_
 refine Z45 ?_; intro bx1
 refine Zf ?_
 refine Z7 ?_
 refine Z9i ?_
 refine Z6 ?_
 refine Z9j ?_
 refine Z8o ?_
 refine Z10 ?_
 refine rg_i (wn_none rfl) (os_back (os_pull4 (os_pull4 (os_call cb_49 rfl (fun w s => RPlaceO_calls _ _ _ _ _ _ _ _  s )))) (fun _ s => (((((((s.pull 6).pull 6).pull 3).pull 3).pull 6).pull 6).pull 6))) rfl rfl ?_; rintro _ _ ⟨rfl, rfl⟩; rw [hpl, hpl0]; refine ⟨[], rfl, ?_⟩
 refine Z3y ?_
 refine Zu ?_
 refine Z3g ?_
 refine cd_cond rfl (fun hb1 => ?_) (fun hb1 => ?_)
 ·have hp1 := hb1
  (try simp only [bn] at hp1)
  omega
 have hp1 := hb1
 (try simp only [bn] at hp1)
 refine Z9 ?_
 refine Z20 ?_
 refine oq (op_field fld_47_0 rfl) ?_
 refine oq (op_ld 1 sc_45 rfl rfl rfl) ?_
 refine Zr ?_
 refine oq (op_field fld_44_3 rfl) ?_
 refine oq (op_ld 3 sc_3 rfl rfl rfl) ?_
 refine oq (op_build (L := [_, _, _, _]) (vs := [(3, .int _ _)]) bB_44 rfl ⟨⟨rfl, rfl⟩, trivial⟩ rfl) ?_
 refine Z26 ?_; intro bx2
 refine Zd ?_
 refine Z1b ?_
 refine Zx ?_
 refine Z1 ?_
 refine Z1q ?_
 refine Zr ?_
 refine oq (op_field fld_47_0 rfl) ?_
 refine oq (op_ld 2 sc_45 rfl rfl rfl) ?_
 refine Z9q ?_
 refine oq (op_ld 4 sc_37 rfl rfl rfl) ?_
 refine Z4u ?_
 refine Z1i ?_
 refine cd_imp (fun _ s => Sat.rowNil (E := encI64) (e := 3) s) ?_
 refine cd_imp (fun _ s => Sat.rowNil (E := encRoot) (e := 24) s) ?_
 refine cd_imp (fun _ s => Sat.rowNil (E := encI64) (e := 3) s) ?_
 refine cd_imp (fun _ s => Sat.rowNil (E := encRoot) (e := 24) s) ?_
 refine cd_pull4 ?_
 refine cd_loop2 (α := Nat × Option Addr × Nat × Option Addr × Nat × Option Addr × Nat × Option Addr × Nat) [(8, 11), (37, 109)] (fun x => [(8, .slice x.2.2.2.2.2.2.2.1 (prOm t.nodes a x.1 o).length x.2.2.2.2.2.2.2.2), (37, .int .i64 (x.1 : Int))]) (fun x => Blk bx2 (.cells #[.slice x.2.1 (prR t.nodes a x.1).length x.2.2.1, .slice x.2.2.2.1 (prS t.nodes a x.1).length x.2.2.2.2.1, .slice x.2.2.2.2.2.1 (prP t.nodes a x.1).length x.2.2.2.2.2.2.1, .int .i64 t.most] 44 (0, 0)) :: Row 24 encRoot (.slice x.2.1 (prR t.nodes a x.1).length x.2.2.1) (prR t.nodes a x.1) :: Row 3 encI64 (.slice x.2.2.2.1 (prS t.nodes a x.1).length x.2.2.2.2.1) (prS t.nodes a x.1) :: Row 24 encRoot (.slice x.2.2.2.2.2.1 (prP t.nodes a x.1).length x.2.2.2.2.2.2.1) (prP t.nodes a x.1) :: Row 3 encI64 (.slice x.2.2.2.2.2.2.2.1 (prOm t.nodes a x.1 o).length x.2.2.2.2.2.2.2.2) (prOm t.nodes a x.1 o) :: _) (fun x => x.1 ≤ t.nodes.length) (fun x => t.nodes.length - x.1) (0, none, 0, none, 0, none, 0, none, 0) (Nat.zero_le _) ⟨rfl, rfl, trivial⟩ (fun _ s => s) ?_
 rintro ⟨i, b1, d1, b2, d2, b3, d3, b4, d4⟩ hi2 f; (try dsimp only at hi2 ⊢)
 refine Zv ?_
 refine cd_cond rfl (fun hb2 => ?_) (fun hb2 => ?_)
 ·have hp2 := hb2
  (try simp only [bn] at hp2)
  have hi1 : i < t.nodes.length := by omega
  refine Z2m ?_
  refine oq (op_index i sB_37 rfl rfl rfl (rds_row 9 rfl rfl) rfl (by omega)) ?_
  refine oq (op_ldaw (L := rootC _) ag_24 (rds_row 9 rfl rfl) rfl (by omega) rfl (rootC_ta _)) ?_
  refine Z1n ?_; intro bx3
  refine Zw ?_
  refine Z3l ?_
  refine Z4m ?_
  rw [hRr i (by omega)]
  refine Z7 ?_
  refine cd_draw (M := []) mx [6] (by kernel_rfl) ?_
  refine Z6 ?_
  refine Z9j ?_
  refine rg_q (wn_none rfl) (op_ld 7 sc_45 rfl rfl rfl) rfl rfl ?_
  refine rg_q (wn_none rfl) (op_lda (L := rootC _) 6 ag_24 rfl rfl (rootC_take' _) (by simp [rootC_len])) rfl rfl ?_
  refine Z10 ?_
  refine rg_i (wn_none rfl) (os_back (os_pull12 (os_pull12 (os_pull12 (os_pull12 (os_call cb_54 rfl (fun w s => RBelowO_calls _ _ _ _ _ _ _ _ _ _ _ _ _  s (by assumption) (by assumption))))))) (fun _ s => ((((s.push 12).push 12).push 12).push 12))) rfl rfl ?_; rintro _ l ⟨rfl, rfl⟩; rw [below_rt hw hi hi1]; refine ⟨[], rfl, ?_⟩
  refine rg_q (wn_none rfl) (op_not rfl) rfl rfl ?_
  refine Z19 ?_
  refine cd_cond rfl (fun hb3 => ?_) (fun hb3 => ?_)
  ·have hp3 := hb3
   (try simp only [bn] at hp3)
   have hbe : ¬ belI t.nodes a (i : Int) = true := by simpa using hb3
   have eR : (prR t.nodes a (i + 1)) = (prR t.nodes a i) := by unfold prR; rw [selI_succ, if_neg hbe]
   have eS : (prS t.nodes a (i + 1)) = (prS t.nodes a i) := by unfold prS; rw [selI_succ, if_neg hbe]
   have eP : (prP t.nodes a (i + 1)) = (prP t.nodes a i) := by unfold prP; rw [selI_succ, if_neg hbe]
   have eO : (prOm t.nodes a (i + 1) o) = (prOm t.nodes a i o) := by unfold prOm; rw [selI_succ, if_neg hbe]
   refine cd_exit ?_
   refine Zay ?_
   refine px_then ?_
   refine Z1d ?_
   refine Zbw ?_
   refine px_loop2 (i + 1, b1, d1, b2, d2, b3, d3, b4, d4) (by dsimp only; omega) (by (try dsimp only); omega) ⟨congrArg (fun q => Value.slice b4 (List.length q) d4) eO.symm, congrArg (Value.int .i64) (by simp), trivial⟩ ?_ (fun _ s => (by (try dsimp only); rw [eR, eS, eP, eO]; exact (s.del 0)))
   exact Z2
  have hp3 := hb3
  (try simp only [bn] at hp3)
  have hbe : belI t.nodes a (i : Int) = true := by simpa using hb3
  have eR : (prR t.nodes a (i + 1)) = (prR t.nodes a i) ++ [rtA t.nodes i] := by unfold prR; rw [selI_succ, if_pos hbe, List.map_append]; rfl
  have eS : (prS t.nodes a (i + 1)) = (prS t.nodes a i) ++ [slA t.nodes i] := by unfold prS; rw [selI_succ, if_pos hbe, List.map_append]; rfl
  have eP : (prP t.nodes a (i + 1)) = (prP t.nodes a i) ++ [upR t.nodes a i] := by unfold prP; rw [selI_succ, if_pos hbe, List.map_append]; rfl
  have eO : (prOm t.nodes a (i + 1) o) = (prOm t.nodes a i o) ++ [oA o i] := by unfold prOm; rw [selI_succ, if_pos hbe, List.map_append]; rfl
  refine Z9 ?_
  refine Z52 ?_
  refine Z94 ?_
  dsimp only [List.take_succ_cons, List.take_zero, List.drop_succ_cons, List.drop_zero]
  refine Ze ?_
  refine Z6 ?_
  refine Z7e ?_
  refine rg_q (wn_none rfl) (op_ld 1 sc_37 rfl rfl rfl) rfl rfl ?_
  refine Z10 ?_
  refine Z95 ?_; intro ao1
  refine Zbk ?_; intro ao2 ac2
  refine rg_tail2 ?_
  refine Z9q ?_
  refine Zo ?_
  refine Z96 ?_
  refine Z1 ?_
  refine cd_pull4 ?_
  refine Z7 ?_
  refine cd_drawt (M := [_]) mx [15, 16] 17 (by kernel_rfl) rfl rfl ?_
  dsimp only [List.take_succ_cons, List.take_zero, List.drop_succ_cons, List.drop_zero]
  refine Ze ?_
  refine Z6 ?_
  refine rg_q (wn_none rfl) (op_field fld_44_1 rfl) rfl rfl ?_
  refine Z9z ?_
  refine Z6 ?_
  refine Z9j ?_
  refine rg_q (wn_none rfl) (op_ld 7 sc_45 rfl rfl rfl) rfl rfl ?_
  refine Z9v ?_
  refine rg_q (wn_none rfl) (op_field fld_44_1 rfl) rfl rfl ?_
  refine rg_q (wn_none rfl) (op_ld 9 sc_42 rfl rfl rfl) rfl rfl ?_
  refine Zg ?_
  refine rg_q (wn_none rfl) (op_index i sB_42 rfl rfl rfl (rds_row 11 rfl rfl) rfl (by omega)) rfl rfl ?_
  refine rg_q (wn_none rfl) (op_ldw sc_3 (rds_row 11 rfl rfl) rfl (by omega) rfl) rfl rfl ?_
  refine rg_i (wn_none rfl) (os_bslice (E := encI64) [_] (ys := [_]) sB_42 zv_3 rfl rfl rfl rfl (by decide)) rfl rfl ?_; rintro _ _ ⟨ao3, rfl, rfl⟩; refine ⟨[_, _], rfl, ?_⟩
  refine rg_i (wn_none rfl) (os_pull1 (os_append (E := encI64) rfl sB_42 zv_3 rfl rfl rfl (fun w s => (rds_row 1 rfl rfl) [] w s) rfl (by simp; have := rk_le t.nodes a i; have := (rfl : (prR t.nodes a i).length = _); simp [prR, prS, prP, prOm] at *; unfold rk at *; omega) (by unfold maxLen; simp; have := rk_le t.nodes a i; have := (rfl : (prR t.nodes a i).length = _); simp [prR, prS, prP, prOm] at *; unfold rk at *; omega))) rfl rfl ?_; rintro _ _ ⟨ao4, ac4, rfl, rfl⟩; refine ⟨[_, _], rfl, ?_⟩
  refine rg_tail2 ?_
  refine Zr ?_
  refine oq (op_field fld_44_1 rfl) ?_
  refine Zs ?_
  refine Zb5 ?_
  refine Z1 ?_
  rw [hSr i (by omega)]
  refine Z20 ?_
  refine oq (op_field fld_47_0 rfl) ?_
  refine oq (op_ld 9 sc_45 rfl rfl rfl) ?_
  refine Z9r ?_
  refine oq (op_ld 11 sc_37 rfl rfl rfl) ?_
  refine Z4 ?_
  refine oq (op_index i sB_37 rfl rfl rfl (rds_row 14 rfl rfl) rfl (by omega)) ?_
  refine oq (op_ldaw (L := rootC _) ag_24 (rds_row 14 rfl rfl) rfl (by omega) rfl (rootC_ta _)) ?_
  refine Z1n ?_; intro bx4
  refine Z3l ?_
  refine Z1 ?_
  refine Zu ?_
  refine Z4 ?_
  refine Z48 ?_
  refine Z1 ?_
  refine cd_cond rfl (fun hb4 => ?_) (fun hb4 => ?_)
  ·have hp4 := hb4
   (try simp only [bn] at hp4)
   have hup : Root.zero = upR t.nodes a i := by unfold upR; rw [if_pos (by omega)]
   refine Z1d ?_
   refine oq (op_buildr rfl rB_24 zBr_24) ?_
   refine oN (os_storera _ ag_24 rfl rfl (Free.zero _)) ?_; rintro _ _ ⟨rfl, rfl⟩; rw [hup]
   refine Zds ?_
   refine cd_pull7 ?_
   refine Z7 ?_
   refine Z94 ?_
   dsimp only [List.take_succ_cons, List.take_zero, List.drop_succ_cons, List.drop_zero]
   refine Ze ?_
   refine Z6 ?_
   refine rg_q (wn_none rfl) (op_field fld_44_2 rfl) rfl rfl ?_
   refine rg_q (wn_none rfl) (op_ld 1 sc_37 rfl rfl rfl) rfl rfl ?_
   refine Z10 ?_
   refine Z95 ?_; intro ao5
   refine Zbk ?_; intro ao6 ac6
   refine rg_tail2 ?_
   refine Z9r ?_
   refine Zo ?_
   refine Z96 ?_
   refine Z1 ?_
   refine Z1d ?_
   refine Za ?_
   refine Z1k ?_
   refine oq (op_lda (L := rootC _) 8 ag_24 rfl rfl (rootC_take' _) (by simp [rootC_len])) ?_
   refine ol_pull12 ?_
   refine ol_pull12 ?_
   refine ol_pull16 ?_
   refine ol_pull16 ?_
   refine ol_pull16 ?_
   refine ol_pull16 ?_
   refine oi (os_call cb_27 rfl (fun w s => ROwnOfO_calls _ _ _ _ _ _ _ _ _ _ _ _ _ _ _ _  s (by assumption) (by assumption) (by first | assumption | omega))) ?_; rintro _ _ ⟨rfl, rfl⟩; rw [ofF_rt2 hw hi1]
   refine Za4 ?_; intro ao7
   refine ol_pull16 ?_
   refine Zcz ?_; intro ao8 ac8
   refine Zx ?_
   refine Z30 ?_
   refine px_pull5 ?_
   refine px_pull5 ?_
   refine px_pull5 ?_
   refine px_pull5 ?_
   refine px_pull7 ?_
   refine px_pull7 ?_
   refine px_pull17 ?_
   refine px_pull7 ?_
   refine px_pull10 ?_
   refine px_pull13 ?_
   refine px_pull15 ?_
   refine px_pull12 ?_
   refine px_loop2 (i + 1, ao2, ac2, ao4, ac4, ao6, ac6, ao8, ac8) (by dsimp only; omega) (by (try dsimp only); omega) ⟨congrArg (fun q => Value.slice ao8 (List.length q) ac8) eO.symm, congrArg (Value.int .i64) (by simp), trivial⟩ ?_ (fun _ s => (by (try dsimp only); rw [eR, eS, eP, eO]; exact ((((((s.del 17).del 16).del 15).del 14).del 13).del 12)))
   exact Z2
  have hp4 := hb4
  (try simp only [bn] at hp4)
  have hup : Pa[i]'(by omega) = upR t.nodes a i := hPr i (by omega) (by omega)
  rw [hup]
  refine Z9 ?_
  refine cd_pull7 ?_
  refine Z7 ?_
  refine Z94 ?_
  dsimp only [List.take_succ_cons, List.take_zero, List.drop_succ_cons, List.drop_zero]
  refine Ze ?_
  refine Z6 ?_
  refine rg_q (wn_none rfl) (op_field fld_44_2 rfl) rfl rfl ?_
  refine rg_q (wn_none rfl) (op_ld 1 sc_37 rfl rfl rfl) rfl rfl ?_
  refine Z10 ?_
  refine Z95 ?_; intro ao9
  refine Zbk ?_; intro ao10 ac10
  refine rg_tail2 ?_
  refine Z9r ?_
  refine Zo ?_
  refine Z96 ?_
  refine Z1 ?_
  refine Z1d ?_
  refine Za ?_
  refine Z1k ?_
  refine oq (op_lda (L := rootC _) 8 ag_24 rfl rfl (rootC_take' _) (by simp [rootC_len])) ?_
  refine ol_pull12 ?_
  refine ol_pull12 ?_
  refine ol_pull16 ?_
  refine ol_pull16 ?_
  refine ol_pull16 ?_
  refine ol_pull16 ?_
  refine oi (os_call cb_27 rfl (fun w s => ROwnOfO_calls _ _ _ _ _ _ _ _ _ _ _ _ _ _ _ _  s (by assumption) (by assumption) (by first | assumption | omega))) ?_; rintro _ _ ⟨rfl, rfl⟩; rw [ofF_rt2 hw hi1]
  refine Za4 ?_; intro ao11
  refine ol_pull16 ?_
  refine Zcz ?_; intro ao12 ac12
  refine Zx ?_
  refine Z30 ?_
  refine px_pull5 ?_
  refine px_pull5 ?_
  refine px_pull5 ?_
  refine px_pull5 ?_
  refine px_pull7 ?_
  refine px_pull7 ?_
  refine px_pull17 ?_
  refine px_pull7 ?_
  refine px_pull10 ?_
  refine px_pull13 ?_
  refine px_pull15 ?_
  refine px_pull12 ?_
  refine px_loop2 (i + 1, ao2, ac2, ao4, ac4, ao10, ac10, ao12, ac12) (by dsimp only; omega) (by (try dsimp only); omega) ⟨congrArg (fun q => Value.slice ao12 (List.length q) ac12) eO.symm, congrArg (Value.int .i64) (by simp), trivial⟩ ?_ (fun _ s => (by (try dsimp only); rw [eR, eS, eP, eO]; exact ((((((s.del 17).del 16).del 15).del 14).del 13).del 12)))
  exact Z2
 have hp2 := hb2
 (try simp only [bn] at hp2)
 have hie : i = t.nodes.length := by omega
 refine Z1g ?_
 refine Zc ?_
 refine Za ?_
 refine Za ?_
 refine Z5w ?_
 refine oq (op_build (L := [_, _, _]) (vs := [(0, .pointer _), (1, .slice _ _ _), (2, .int _ _)]) bB_47 rfl ⟨⟨rfl, rfl⟩, ⟨rfl, rfl⟩, ⟨rfl, rfl⟩, trivial⟩ rfl) ?_
 refine Z26 ?_; intro bx5
 refine Zd ?_
 refine Zh ?_
 refine px_pull12 ?_
 refine px_pull12 ?_
 refine px_pull12 ?_
 refine px_pull12 ?_
 refine px_pull12 ?_
 refine px_pull12 ?_
 refine px_pull11 ?_
 refine px_pull7 ?_
 refine px_pull11 ?_
 refine px_pull11 ?_
 refine px_pull11 ?_
 refine px_pull11 ?_
 rw [hie]
 exact px_ret2 rfl (v1 := .pointer _) (v2 := .bool _) (l' := RTreeObj _ (prT t a) :: RWObj _ _ (prO t.nodes a o) :: RTreeObj pr t :: RWObj pm pr o :: l) rfl rfl (fun _ s => by
  have s1 : Sat _ _ (RTreeObj _ (prT t a) :: _) := Sat.rtreeMk (prT_wf hw hla) (pr_ref hw a) rfl rfl rfl (s.del 12)
  have s2 : Sat _ _ (RWObj _ _ (prO t.nodes a o) :: _) := Sat.rwMk rfl rfl ((s1.pull 2).pull 2)
  have s3 := ((((((s2.pull 7).pull 7).pull 7).pull 7).pull 7).pull 7)
  have s4 := s3.rwtPack hw hR
  have s5 := ((s4.pull 3).pull 3).pull 1
  exact s5) ⟨_, _, rfl, rfl⟩
end Go.SL

set_option linter.unusedVariables false
set_option linter.unusedSimpArgs false
namespace Go.SL
open Go.Proofs

theorem TabNewOk_calls {w0 w : World} {l : List HProp} (n sl : Int) (hs : Sat w0 w l) (h : 1 ≤ n ∧ n ≤ 64 ∧ 1 ≤ sl ∧ sl ≤ 32) :
  Calls Try.prog 85 #[.int .i64 n, .int .i64 sl] w (Ret w0 fun v l' => ∃ p, v = .pointer (some ⟨p, 0, none⟩) ∧ l' = TabObj p (TabS.new n.toNat sl) :: l) :=
 (New_calls n sl hs).mono fun e w' ⟨v, l', he, hp, hs'⟩ => by
  rcases hp with ⟨_, _, hb⟩ | ⟨p, hv, _, hl⟩
  ·omega
  exact ⟨v, l', he, ⟨p, hv, hl⟩, hs'⟩
theorem RTabNewOk_calls {w0 w : World} {l : List HProp} (n sl : Int) (hs : Sat w0 w l) (h : 1 ≤ n ∧ n ≤ 64 ∧ 1 ≤ sl ∧ sl ≤ 32) :
  Calls Try.prog 90 #[.int .i64 n, .int .i64 sl] w (Ret w0 fun v l' => ∃ p, v = .tuple #[.pointer (some ⟨p, 0, none⟩), .bool true] ∧ l' = RTabObj p (TabS.new n.toNat sl) :: l) :=
 (RNew_calls n sl hs).mono fun e w' ⟨v, l', he, hp, hs'⟩ => by
  rcases hp with ⟨_, _, hb⟩ | ⟨p, hv, _, hl⟩
  ·omega
  exact ⟨v, l', he, ⟨p, hv, hl⟩, hs'⟩
theorem RTNewOk_calls {w0 w : World} {l : List HProp} (r : Root) (slot most : Int) (hs : Sat w0 w l) (h : 1 ≤ most ∧ most ≤ 256 ∧ 0 ≤ slot ∧ slot ≤ 1073741824) :
  Calls Try.prog 46 #[.agg (rootC r).toArray, .int .i64 slot, .int .i64 most] w (Ret w0 fun v l' => ∃ p, v = .tuple #[.pointer (some ⟨p, 0, none⟩), .bool true] ∧ l' = RTreeObj p (TreeS.new r slot most) :: l) :=
 (RTNew_calls r slot most hs).mono fun e w' ⟨v, l', he, hp, hs'⟩ => by
  rcases hp with ⟨_, _, hb⟩ | ⟨p, hv, _, hl⟩
  ·omega
  exact ⟨v, l', he, ⟨p, hv, hl⟩, hs'⟩

set_option maxRecDepth 100000 in
set_option maxHeartbeats 1000000 in
theorem BNewN_calls {w0 w : World} {l : List HProp} (ao : Option Addr) (c : Nat) (xs : List Val) (n1 n2 n3 n4 n5 n6 n7 n8 n9 n10 n11 : Int) (hs : Sat w0 w (l)) (hg : goodC ⟨⟨ao, xs.length, c⟩, n1, n2, n3, n4, n5, n6, n7, n8, n9, n10, n11⟩ xs = false) (hr : Rds w0 l encVal ao xs) (hxl : xs.length ≤ 1000000) :
  Calls Try.prog 62 #[.agg (cfgC ⟨⟨ao, xs.length, c⟩, n1, n2, n3, n4, n5, n6, n7, n8, n9, n10, n11⟩).toArray] w (Ret w0 fun v l' => v = .pointer none ∧ l' = l) := by
 refine calls_enter Try.func62 rfl rfl rfl hs ?_
 refine Z45 ?_; intro bx1
 refine Z40 ?_
 refine Z4f ?_
 refine oi (os_call cb_83 rfl (fun w s => Good_calls _ _ _ _ _ _ _ _ _ _ _ _ _ _  s (hr.cons _) (by first | omega | (simp; done) | (simp; omega)))) ?_; rintro _ _ ⟨rfl, rfl⟩
 refine Z3e ?_
 refine Z1 ?_
 refine cd_cond rfl (fun hb1 => ?_) (fun hb1 => ?_)
 ·have hp1 := hb1
  (try simp only [bn] at hp1)
  refine Z38 ?_
  refine Z1z ?_
  refine Z17 ?_
  exact px_ret1 rfl (v := .pointer _) rfl (fun _ s => (s.del 0)) ⟨rfl, rfl⟩
 have hp1 := hb1
 (try simp only [bn] at hp1)
 exact absurd hb1 (by rw [hg]; simp)

set_option maxRecDepth 100000 in
set_option maxHeartbeats 1000000 in
theorem RBNewN_calls {w0 w : World} {l : List HProp} (ao : Option Addr) (c : Nat) (xs : List Val) (n1 n2 n3 n4 n5 n6 n7 n8 n9 n10 n11 : Int) (hs : Sat w0 w (l)) (hg : goodC ⟨⟨ao, xs.length, c⟩, n1, n2, n3, n4, n5, n6, n7, n8, n9, n10, n11⟩ xs = false) (hr : Rds w0 l encVal ao xs) (hxl : xs.length ≤ 1000000) (hq : ∀ y ∈ xs, I64 y.stake ∧ y.key.length ≤ maxLen) :
  Calls Try.prog 66 #[.agg (cfgC ⟨⟨ao, xs.length, c⟩, n1, n2, n3, n4, n5, n6, n7, n8, n9, n10, n11⟩).toArray] w (Ret w0 fun v l' => v = .tuple #[.pointer none, .bool false] ∧ l' = l) := by
 refine calls_enter Try.func66 rfl rfl rfl hs ?_
 refine Z45 ?_; intro bx1
 refine Z3a ?_
 refine Z4f ?_
 refine oi (os_call cb_89 rfl (fun w s => RGood_calls _ _ _ _ _ _ _ _ _ _ _ _ _ _  s (hr.cons _) (by first | omega | (simp; done) | (simp; omega)) (by assumption))) ?_; rintro _ _ ⟨rfl, rfl⟩
 refine Z3e ?_
 refine Z1 ?_
 refine cd_cond rfl (fun hb1 => ?_) (fun hb1 => ?_)
 ·have hp1 := hb1
  (try simp only [bn] at hp1)
  refine Z38 ?_
  refine Zp ?_
  exact px_ret2 rfl (v1 := .pointer _) (v2 := .bool _) rfl rfl (fun _ s => (s.del 0)) ⟨rfl, rfl⟩
 have hp1 := hb1
 (try simp only [bn] at hp1)
 exact absurd hb1 (by rw [hg]; simp)

set_option maxRecDepth 100000 in
set_option maxHeartbeats 1000000 in
theorem BNewS_calls {w0 w : World} {l : List HProp} (ao : Option Addr) (c : Nat) (xs : List Val) (n1 n2 n3 n4 n5 n6 n7 n8 n9 n10 n11 : Int) (hs : Sat w0 w (l)) (hg : goodC ⟨⟨ao, xs.length, c⟩, n1, n2, n3, n4, n5, n6, n7, n8, n9, n10, n11⟩ xs = true) (hr : Rds w0 l encVal ao xs) :
  Calls Try.prog 62 #[.agg (cfgC ⟨⟨ao, xs.length, c⟩, n1, n2, n3, n4, n5, n6, n7, n8, n9, n10, n11⟩).toArray] w (Ret w0 fun v l' => ∃ pb pt pw pv, v = .pointer (some ⟨pb, 0, none⟩) ∧ l' = Blk pb (.cells #[.slice ao xs.length c, .int .i64 n1, .int .i64 n2, .int .i64 n3, .int .i64 n4, .int .i64 n5, .int .i64 n6, .int .i64 n7, .int .i64 n8, .int .i64 n9, .int .i64 n10, .int .i64 n11, .pointer (some ⟨pt, 0, none⟩), .pointer (some ⟨pw, 0, none⟩), .pointer (some ⟨pv, 0, none⟩)] 131 (0, 0)) :: TreeObj pt (TreeS.new (shaM ([116, 111, 108, 108, 101, 114] ++ bytesC ⟨⟨ao, xs.length, c⟩, n1, n2, n3, n4, n5, n6, n7, n8, n9, n10, n11⟩ xs)) 0 n3) :: WObj pw pt (TreeS.new (shaM ([116, 111, 108, 108, 101, 114] ++ bytesC ⟨⟨ao, xs.length, c⟩, n1, n2, n3, n4, n5, n6, n7, n8, n9, n10, n11⟩ xs)) 0 n3).nodes (ownE xs (effT (TabS.new xs.length n1)) (TreeS.new (shaM ([116, 111, 108, 108, 101, 114] ++ bytesC ⟨⟨ao, xs.length, c⟩, n1, n2, n3, n4, n5, n6, n7, n8, n9, n10, n11⟩ xs)) 0 n3).nodes) :: TabObj pv (TabS.new xs.length n1) :: l) := by
 have hbd := goodC_bd hg
 (try dsimp only at hbd)
 have hxl := hbd.2.2.1.2
 have hk := hbd.2.2.2
 refine calls_enter Try.func62 rfl rfl rfl hs ?_
 refine Z45 ?_; intro bx1
 refine Z40 ?_
 refine Z4f ?_
 refine oi (os_call cb_83 rfl (fun w s => Good_calls _ _ _ _ _ _ _ _ _ _ _ _ _ _  s (hr.cons _) (by omega))) ?_; rintro _ _ ⟨rfl, rfl⟩
 refine Z3e ?_
 refine Z1 ?_
 refine cd_cond rfl (fun hb1 => ?_) (fun hb1 => ?_)
 ·have hp1 := hb1
  (try simp only [bn] at hp1)
  exact absurd hb1 (by rw [hg]; simp)
 have hp1 := hb1
 (try simp only [bn] at hp1)
 refine Zl ?_
 refine cd_draw (M := []) mx [1, 4] (by kernel_rfl) ?_
 refine rg_q (wn_none rfl) (op_lda (L := cfgC _) 0 ag_65 rfl rfl (cfgC_ta _) (by simp [cfgC_len])) rfl rfl ?_
 refine rg_i (wn_none rfl) (os_call cb_84 rfl (fun w s => GRoot_calls _ _ _ _ _ _ _ _ _ _ _ _ _ _  s (hr.cons _) (by omega) hk)) rfl rfl ?_; rintro _ _ ⟨rfl, rfl⟩; refine ⟨[], rfl, ?_⟩
 refine Zdz ?_
 refine rg_i (wn_none rfl) (os_call cb_45 rfl (fun w s => TNewOk_calls _ _ _  s (by omega))) rfl rfl ?_; rintro _ _ ⟨np3, rfl, rfl⟩; refine ⟨[_], rfl, ?_⟩
 refine Z5b ?_
 refine Z6l ?_
 refine Z8x ?_
 refine Z5i ?_
 refine Z41 ?_
 refine Z7 ?_
 refine cd_drawt (M := []) mx [3, 9] 11 (by kernel_rfl) rfl rfl ?_
 dsimp only [List.take_succ_cons, List.take_zero, List.drop_succ_cons, List.drop_zero]
 refine rg_q (wn_none rfl) (op_lda (L := cfgC _) 1 ag_65 rfl rfl (cfgC_ta _) (by simp [cfgC_len])) rfl rfl ?_
 refine Ze ?_
 refine Ze ?_
 refine rg_i (wn_none rfl) (os_call cb_50 rfl (fun w s => WNew_calls _ _  s )) rfl rfl ?_; rintro _ _ ⟨pw4, rfl, rfl⟩; refine ⟨[_], rfl, ?_⟩
 refine rg_q (wn_none rfl) (op_field fld_65_0 rfl) rfl rfl ?_
 refine rg_q (wn_none rfl) (op_ld 1 sc_63 rfl rfl (show (cfgC _).toArray[0]? = some (.slice ao xs.length c) from cfgC_a0 _)) rfl rfl ?_
 refine rg_q (wn_none rfl) (op_len_slice Try.underlying63 rfl) rfl rfl ?_
 refine rg_q (wn_none rfl) (op_field fld_65_1 rfl) rfl rfl ?_
 refine rg_q (wn_none rfl) (op_ld 1 sc_3 rfl rfl (show (cfgC _).toArray[1]? = some (.int .i64 n1) from cfgC_a1 _)) rfl rfl ?_
 refine rg_i (wn_none rfl) (os_call cb_85 rfl (fun w s => TabNewOk_calls _ _  s (by omega))) rfl rfl ?_; rintro _ _ ⟨nv5, rfl, rfl⟩; rw [Int.toNat_natCast]; refine ⟨[_, _], rfl, ?_⟩
 refine rg_q (wn_none rfl) (op_build (L := [.slice ao xs.length c, .int .i64 n1, .int .i64 n2, .int .i64 n3, .int .i64 n4, .int .i64 n5, .int .i64 n6, .int .i64 n7, .int .i64 n8, .int .i64 n9, .int .i64 n10, .int .i64 n11, .pointer _, .pointer _, .pointer _]) (vs := [(0, .agg (cfgC ⟨⟨ao, xs.length, c⟩, n1, n2, n3, n4, n5, n6, n7, n8, n9, n10, n11⟩).toArray), (1, .pointer _), (2, .pointer _), (3, .pointer _)]) bB_131 rfl ⟨⟨rfl, rfl⟩, ⟨rfl, rfl⟩, ⟨rfl, rfl⟩, ⟨rfl, rfl⟩, trivial⟩ rfl) rfl rfl ?_
 refine rg_tail2 ?_
 refine Z26 ?_; intro bx2
 refine Zd ?_
 refine Z1z ?_
 exact px_ret1 rfl (v := .pointer _) (l' := _ :: TreeObj _ (TreeS.new (shaM ([116, 111, 108, 108, 101, 114] ++ bytesC ⟨⟨ao, xs.length, c⟩, n1, n2, n3, n4, n5, n6, n7, n8, n9, n10, n11⟩ xs)) 0 n3) :: WObj _ _ (TreeS.new (shaM ([116, 111, 108, 108, 101, 114] ++ bytesC ⟨⟨ao, xs.length, c⟩, n1, n2, n3, n4, n5, n6, n7, n8, n9, n10, n11⟩ xs)) 0 n3).nodes (ownE xs (effT (TabS.new xs.length n1)) (TreeS.new (shaM ([116, 111, 108, 108, 101, 114] ++ bytesC ⟨⟨ao, xs.length, c⟩, n1, n2, n3, n4, n5, n6, n7, n8, n9, n10, n11⟩ xs)) 0 n3).nodes) :: TabObj _ (TabS.new xs.length n1) :: l) rfl (fun _ s => by rw [newB_own]; exact (((((s.del 4).pull 1).pull 2).pull 3).pull 3)) ⟨_, _, _, _, rfl, rfl⟩

set_option maxRecDepth 100000 in
set_option maxHeartbeats 1000000 in
theorem RBNewS_calls {w0 w : World} {l : List HProp} (ao : Option Addr) (c : Nat) (xs : List Val) (n1 n2 n3 n4 n5 n6 n7 n8 n9 n10 n11 : Int) (hs : Sat w0 w (l)) (hg : goodC ⟨⟨ao, xs.length, c⟩, n1, n2, n3, n4, n5, n6, n7, n8, n9, n10, n11⟩ xs = true) (hr : Rds w0 l encVal ao xs) (hq : ∀ y ∈ xs, I64 y.stake ∧ y.key.length ≤ maxLen) :
  Calls Try.prog 66 #[.agg (cfgC ⟨⟨ao, xs.length, c⟩, n1, n2, n3, n4, n5, n6, n7, n8, n9, n10, n11⟩).toArray] w (Ret w0 fun v l' => ∃ pm pr pq, v = .tuple #[.pointer (some ⟨pm, 0, none⟩), .bool true] ∧ l' = Blk pm (.cells #[.slice ao xs.length c, .int .i64 n1, .int .i64 n2, .int .i64 n3, .int .i64 n4, .int .i64 n5, .int .i64 n6, .int .i64 n7, .int .i64 n8, .int .i64 n9, .int .i64 n10, .int .i64 n11, .pointer (some ⟨pr, 0, none⟩), .pointer (some ⟨pq, 0, none⟩)] 127 (0, 0)) :: RTreeObj pr (TreeS.new (shaM ([116, 111, 108, 108, 101, 114] ++ bytesC ⟨⟨ao, xs.length, c⟩, n1, n2, n3, n4, n5, n6, n7, n8, n9, n10, n11⟩ xs)) 0 n3) :: RTabObj pq (TabS.new xs.length n1) :: l) := by
 have hbd := goodC_bd hg
 (try dsimp only at hbd)
 have hxl := hbd.2.2.1.2
 have hk := hbd.2.2.2
 refine calls_enter Try.func66 rfl rfl rfl hs ?_
 refine Z45 ?_; intro bx1
 refine Z3a ?_
 refine Z4f ?_
 refine oi (os_call cb_89 rfl (fun w s => RGood_calls _ _ _ _ _ _ _ _ _ _ _ _ _ _  s (hr.cons _) (by omega) (by assumption))) ?_; rintro _ _ ⟨rfl, rfl⟩
 refine Z3e ?_
 refine Z1 ?_
 refine cd_cond rfl (fun hb1 => ?_) (fun hb1 => ?_)
 ·have hp1 := hb1
  (try simp only [bn] at hp1)
  exact absurd hb1 (by rw [hg]; simp)
 have hp1 := hb1
 (try simp only [bn] at hp1)
 refine Zl ?_
 refine cd_draw (M := []) mx [1, 4] (by kernel_rfl) ?_
 refine rg_q (wn_none rfl) (op_lda (L := cfgC _) 0 ag_65 rfl rfl (cfgC_ta _) (by simp [cfgC_len])) rfl rfl ?_
 refine rg_i (wn_none rfl) (os_call cb_63 rfl (fun w s => RRoot_calls _ _ _ _ _ _ _ _ _ _ _ _ _ _  s (hr.cons _) (by omega) hk)) rfl rfl ?_; rintro _ _ ⟨rfl, rfl⟩; refine ⟨[], rfl, ?_⟩
 refine Zdz ?_
 refine rg_i (wn_none rfl) (os_call cb_46 rfl (fun w s => RTNewOk_calls _ _ _  s (by omega))) rfl rfl ?_; rintro _ _ ⟨nr3, rfl, rfl⟩; refine ⟨[_], rfl, ?_⟩
 refine Z5b ?_
 refine Z6l ?_
 refine Z6q ?_
 refine Z5i ?_
 refine Z2i ?_
 refine rg_nil_then1 ?_
 refine Z0 ?_
 refine Z4d ?_
 refine oq (op_ld 1 sc_63 rfl rfl (show (cfgC _).toArray[0]? = some (.slice ao xs.length c) from cfgC_a0 _)) ?_
 refine Z4v ?_
 refine oq (op_field fld_65_1 rfl) ?_
 refine oq (op_ld 1 sc_3 rfl rfl (show (cfgC _).toArray[1]? = some (.int .i64 n1) from cfgC_a1 _)) ?_
 refine oi (os_call cb_90 rfl (fun w s => RTabNewOk_calls _ _  s (by omega))) ?_; rintro _ _ ⟨nq4, rfl, rfl⟩; rw [Int.toNat_natCast]
 refine Z2v ?_
 refine Z3t ?_
 refine Z47 ?_
 refine Zd ?_
 refine Z4k ?_
 refine oq (op_lda (L := cfgC _) 2 ag_65 rfl rfl (cfgC_ta _) (by simp [cfgC_len])) ?_
 refine Z1k ?_
 refine Z1k ?_
 refine oq (op_build (L := [.slice ao xs.length c, .int .i64 n1, .int .i64 n2, .int .i64 n3, .int .i64 n4, .int .i64 n5, .int .i64 n6, .int .i64 n7, .int .i64 n8, .int .i64 n9, .int .i64 n10, .int .i64 n11, .pointer _, .pointer _]) (vs := [(0, .agg (cfgC ⟨⟨ao, xs.length, c⟩, n1, n2, n3, n4, n5, n6, n7, n8, n9, n10, n11⟩).toArray), (1, .pointer _), (2, .pointer _)]) bB_127 rfl ⟨⟨rfl, rfl⟩, ⟨rfl, rfl⟩, ⟨rfl, rfl⟩, trivial⟩ rfl) ?_
 refine Z26 ?_; intro bx2
 refine Zd ?_
 refine Zh ?_
 exact px_ret2 rfl (v1 := .pointer _) (v2 := .bool _) (l' := _ :: RTreeObj _ (TreeS.new (shaM ([116, 111, 108, 108, 101, 114] ++ bytesC ⟨⟨ao, xs.length, c⟩, n1, n2, n3, n4, n5, n6, n7, n8, n9, n10, n11⟩ xs)) 0 n3) :: RTabObj _ (TabS.new xs.length n1) :: l) rfl rfl (fun _ s => ((((s.del 3).pull 1).pull 2).pull 2)) ⟨_, _, _, rfl, rfl⟩

set_option maxRecDepth 100000 in
set_option maxHeartbeats 1000000 in
theorem RBTake_calls {w0 w : World} {l : List HProp} (pm pr pq : Nat) (ao : Option Addr) (c : Nat) (xs : List Val) (n1 n2 n3 n4 n5 n6 n7 n8 n9 n10 n11 : Int) (t : TreeS) (tb : TabS) (u : Vote) (hs : Sat w0 w ((Blk pm (.cells #[.slice ao xs.length c, .int .i64 n1, .int .i64 n2, .int .i64 n3, .int .i64 n4, .int .i64 n5, .int .i64 n6, .int .i64 n7, .int .i64 n8, .int .i64 n9, .int .i64 n10, .int .i64 n11, .pointer (some ⟨pr, 0, none⟩), .pointer (some ⟨pq, 0, none⟩)] 127 (0, 0))) :: (RTreeObj pr t) :: (RTabObj pq tb) :: l))  :
  Calls Try.prog 68 #[.pointer (some ⟨pm, 0, none⟩), .agg (voteC u).toArray] w (Ret w0 fun v l' => v = .int .i64 (BookS.take ⟨t, tb⟩ u).1 ∧ l' = Blk pm (.cells #[.slice ao xs.length c, .int .i64 n1, .int .i64 n2, .int .i64 n3, .int .i64 n4, .int .i64 n5, .int .i64 n6, .int .i64 n7, .int .i64 n8, .int .i64 n9, .int .i64 n10, .int .i64 n11, .pointer (some ⟨pr, 0, none⟩), .pointer (some ⟨pq, 0, none⟩)] 127 (0, 0)) :: RTreeObj pr t :: RTabObj pq (BookS.take ⟨t, tb⟩ u).2 :: l) := by
 refine calls_enter Try.func68 rfl rfl rfl hs ?_
 refine Z18 ?_; intro bx1
 refine Zb ?_
 rcases hix : idxOf t.nodes u.target with _ | j
 ·
  have hna : t.node (t.place u.target) = none := by unfold TreeS.place; rw [hix]; rfl
  have hpj : t.place u.target = -1 := by unfold TreeS.place; rw [hix]
  refine Z7 ?_
  refine cd_draw (M := []) mx [6] (by kernel_rfl) ?_
  refine Z6 ?_
  refine Zap ?_
  refine Z8o ?_
  refine Zaa ?_
  refine rg_q (wn_none rfl) (op_lda (L := rootC _) 0 ag_24 rfl rfl (voteC_af2 _) (by simp [voteC_len])) rfl rfl ?_
  refine rg_i (wn_none rfl) (os_back (os_pull2 (os_call cb_49 rfl (fun w s => RPlace_calls _ _ _  s ))) (fun _ s => ((((s.pull 3).pull 1).pull 3).pull 3))) rfl rfl ?_; rintro _ _ ⟨rfl, rfl⟩; rw [hpj]; refine ⟨[], rfl, ?_⟩
  refine Z3y ?_
  refine Z7 ?_
  refine cd_pull2 ?_
  refine cd_rtreeOpen ?_; intro a1 c1 a2 c2 a3 c3 R Sl Pa hw hR
  have hSl : Sl.length = t.nodes.length := by rw [hR.s, List.length_map]
  have hSr : ∀ q (h : q < Sl.length), Sl[q] = slA t.nodes q := fun q h => by simp only [hR.s, List.getElem_map]; exact (slA_get (by omega)).symm
  refine Z1l ?_
  refine Zg ?_
  refine Z5f ?_
  refine Z4t ?_
  refine rg_split 15 rfl (fun hb1 => ?_) (fun hb1 => ?_)
  ·have hp1 := hb1
   (try simp only [bn] at hp1)
   have hunk := unk_none hix
   refine Z3v ?_
   refine Z3v ?_
   refine Z3v ?_
   refine Z3v ?_
   refine Z3v ?_
   refine Z3v ?_
   refine Z9y ?_
   refine rg_q (wn_none rfl) (op_pick_t (v := .bool _) rfl hb1 rfl) rfl rfl ?_
   refine Z19 ?_
   refine Z5q ?_
   refine Z24 ?_
   rw [btake_unk hunk]; (try dsimp only)
   exact Zd0
  have hp1 := hb1
  (try simp only [bn] at hp1)
  exact absurd hb1 (by decide)
 have hjl := idxOf_lt hix
 have hpj : t.place u.target = (j : Int) := by unfold TreeS.place; rw [hix]
 have hna : t.node (t.place u.target) = t.nodes[j]? := by rw [hpj, TreeS.node_at]
 refine Z7 ?_
 refine cd_draw (M := []) mx [6] (by kernel_rfl) ?_
 refine Z6 ?_
 refine Zap ?_
 refine Z8o ?_
 refine Zaa ?_
 refine rg_q (wn_none rfl) (op_lda (L := rootC _) 0 ag_24 rfl rfl (voteC_af2 _) (by simp [voteC_len])) rfl rfl ?_
 refine rg_i (wn_none rfl) (os_back (os_pull2 (os_call cb_49 rfl (fun w s => RPlace_calls _ _ _  s ))) (fun _ s => ((((s.pull 3).pull 1).pull 3).pull 3))) rfl rfl ?_; rintro _ _ ⟨rfl, rfl⟩; rw [hpj]; refine ⟨[], rfl, ?_⟩
 refine Z3y ?_
 refine Z7 ?_
 refine cd_pull2 ?_
 refine cd_rtreeOpen ?_; intro a1 c1 a2 c2 a3 c3 R Sl Pa hw hR
 have hSl : Sl.length = t.nodes.length := by rw [hR.s, List.length_map]
 have hSr : ∀ q (h : q < Sl.length), Sl[q] = slA t.nodes q := fun q h => by simp only [hR.s, List.getElem_map]; exact (slA_get (by omega)).symm
 refine Z1l ?_
 refine Zg ?_
 refine Z5f ?_
 refine Z4t ?_
 refine rg_split 15 rfl (fun hb2 => ?_) (fun hb2 => ?_)
 ·have hp2 := hb2
  (try simp only [bn] at hp2)
  exact absurd (of_decide_eq_true hb2) (by omega)
 have hp2 := hb2
 (try simp only [bn] at hp2)
 refine rg_q (wn_some rfl rfl rfl hb2 rfl) (op_move (v := .pointer _) rfl) rfl rfl ?_
 refine rg_q (wn_some rfl rfl rfl hb2 rfl) (op_nilck rfl) rfl rfl ?_
 refine rg_q (wn_some rfl rfl rfl hb2 rfl) (op_field fld_127_1 rfl) rfl rfl ?_
 refine rg_q (wn_some rfl rfl rfl hb2 rfl) (op_ld 5 sc_45 rfl rfl rfl) rfl rfl ?_
 refine rg_q (wn_some rfl rfl rfl hb2 rfl) (op_nilck rfl) rfl rfl ?_
 refine rg_q (wn_some rfl rfl rfl hb2 rfl) (op_field fld_44_1 rfl) rfl rfl ?_
 refine rg_q (wn_some rfl rfl rfl hb2 rfl) (op_ld 0 sc_42 rfl rfl rfl) rfl rfl ?_
 refine Zag ?_
 refine rg_q (wn_some rfl rfl rfl hb2 rfl) (op_index j sB_42 rfl rfl rfl (rds_row 2 rfl rfl) rfl (by omega)) rfl rfl ?_
 refine rg_q (wn_some rfl rfl rfl hb2 rfl) (op_ldw sc_3 (rds_row 2 rfl rfl) rfl (by omega) rfl) rfl rfl ?_
 refine rg_q (wn_some rfl rfl rfl hb2 rfl) (op_field fld_84_1 rfl) rfl rfl ?_
 refine rg_q (wn_some rfl rfl rfl hb2 rfl) (op_ld 4 sc_3 rfl rfl (voteC_a1 _)) rfl rfl ?_
 refine rg_q (wn_some rfl rfl rfl hb2 rfl) (op_gt rfl rfl) rfl rfl ?_
 refine rg_q (wn_none rfl) (op_pick_f (v := .bool _) rfl hb2 rfl) rfl rfl ?_
 refine Z19 ?_
 refine cd_cond rfl (fun hb3 => ?_) (fun hb3 => ?_)
 ·have hp3 := hb3
  (try simp only [bn] at hp3)
  have hunk : unkB t u = true := by rw [unk_some hix]; exact decide_eq_true (by rw [← hSr j (by omega)]; omega)
  refine Z24 ?_
  rw [btake_unk hunk]; (try dsimp only)
  exact Zd0
 have hp3 := hb3
 (try simp only [bn] at hp3)
 have hbt := btake_yes (tb := tb) (show unkB t u = false by rw [unk_some hix]; exact decide_eq_false (by rw [← hSr j (by omega)]; omega))
 refine Z9 ?_
 refine cd_imp (fun _ s => Sat.rtreeMk hw hR rfl rfl rfl s) ?_
 refine cd_pull3 ?_
 refine Z7 ?_
 refine Z5h ?_
 refine Z6 ?_
 refine rg_q (wn_none rfl) (op_field fld_127_2 rfl) rfl rfl ?_
 refine rg_q (wn_none rfl) (op_ld 2 sc_125 rfl rfl rfl) rfl rfl ?_
 refine rg_q (wn_none rfl) (op_lda (L := voteC _) 1 ag_84 rfl rfl (voteC_ta _) (by simp [voteC_len])) rfl rfl ?_
 refine rg_i (wn_none rfl) (os_call cb_91 rfl (fun w s => RTake_calls _ _ _  s )) rfl rfl ?_; rintro _ _ ⟨rfl, rfl⟩; refine ⟨[_], rfl, ?_⟩
 refine Z41 ?_
 refine cd_ret ?_
 rw [hbt]
 exact px_ret1 rfl (v := .int _ _) rfl (fun _ s => (((s.del 2).pull 1).pull 2)) ⟨rfl, rfl⟩

set_option maxRecDepth 100000 in
set_option maxHeartbeats 1000000 in
theorem RBKeepN_calls {w0 w : World} {l : List HProp} (pm pr pq : Nat) (ao : Option Addr) (c : Nat) (xs : List Val) (n1 n2 n3 n4 n5 n6 n7 n8 n9 n10 n11 : Int) (t : TreeS) (r : Root) (hs : Sat w0 w ((Blk pm (.cells #[.slice ao xs.length c, .int .i64 n1, .int .i64 n2, .int .i64 n3, .int .i64 n4, .int .i64 n5, .int .i64 n6, .int .i64 n7, .int .i64 n8, .int .i64 n9, .int .i64 n10, .int .i64 n11, .pointer (some ⟨pr, 0, none⟩), .pointer (some ⟨pq, 0, none⟩)] 127 (0, 0))) :: (RTreeObj pr t) :: l)) (hi : idxOf t.nodes r = none) :
  Calls Try.prog 69 #[.pointer (some ⟨pm, 0, none⟩), .agg (rootC r).toArray] w (Ret w0 fun v l' => v = .int .i64 7 ∧ l' = Blk pm (.cells #[.slice ao xs.length c, .int .i64 n1, .int .i64 n2, .int .i64 n3, .int .i64 n4, .int .i64 n5, .int .i64 n6, .int .i64 n7, .int .i64 n8, .int .i64 n9, .int .i64 n10, .int .i64 n11, .pointer (some ⟨pr, 0, none⟩), .pointer (some ⟨pq, 0, none⟩)] 127 (0, 0)) :: RTreeObj pr t :: l) := by
 refine calls_enter Try.func69 rfl rfl rfl hs ?_
 refine Z18 ?_; intro bx1
 refine Zb ?_
 refine Z52 ?_
 refine cd_draw (M := [_]) mx [4, 6] (by kernel_rfl) ?_
 refine Z6 ?_
 refine Zap ?_
 refine Z8o ?_
 refine rg_i (wn_none rfl) (os_call cb_51 rfl (fun w s => RWNew_calls _ _  s )) rfl rfl ?_; rintro _ _ ⟨pm1, rfl, rfl⟩; refine ⟨[_, _], rfl, ?_⟩
 refine Z10 ?_
 refine rg_i (wn_none rfl) (os_pull1 (os_call cb_18 rfl (fun w s => RPAllN_calls _ _ _ _ _  s (by assumption)))) rfl rfl ?_; rintro _ _ ⟨rfl, rfl⟩; refine ⟨[_, _], rfl, ?_⟩
 refine Z5b ?_
 refine Z6l ?_
 refine Z6q ?_
 refine Z5i ?_
 refine Z2i ?_
 refine rg_nil_then2 ?_
 refine Z12 ?_
 refine Z2x ?_
 refine Z42 ?_
 exact px_ret1 rfl (v := .int _ _) rfl (fun _ s => (((s.del 2).del 1).pull 1)) ⟨rfl, rfl⟩

set_option maxRecDepth 100000 in
set_option maxHeartbeats 1000000 in
theorem RBKeepS_calls {w0 w : World} {l : List HProp} (pm pr pq : Nat) (ao : Option Addr) (c : Nat) (xs : List Val) (n1 n2 n3 n4 n5 n6 n7 n8 n9 n10 n11 : Int) (t : TreeS) (r : Root) (a : Nat) (hs : Sat w0 w ((Blk pm (.cells #[.slice ao xs.length c, .int .i64 n1, .int .i64 n2, .int .i64 n3, .int .i64 n4, .int .i64 n5, .int .i64 n6, .int .i64 n7, .int .i64 n8, .int .i64 n9, .int .i64 n10, .int .i64 n11, .pointer (some ⟨pr, 0, none⟩), .pointer (some ⟨pq, 0, none⟩)] 127 (0, 0))) :: (RTreeObj pr t) :: l)) (hi : idxOf t.nodes r = some a) :
  Calls Try.prog 69 #[.pointer (some ⟨pm, 0, none⟩), .agg (rootC r).toArray] w (Ret w0 fun v l' => ∃ qr, v = .int .i64 0 ∧ l' = Blk pm (.cells #[.slice ao xs.length c, .int .i64 n1, .int .i64 n2, .int .i64 n3, .int .i64 n4, .int .i64 n5, .int .i64 n6, .int .i64 n7, .int .i64 n8, .int .i64 n9, .int .i64 n10, .int .i64 n11, .pointer (some ⟨qr, 0, none⟩), .pointer (some ⟨pq, 0, none⟩)] 127 (0, 0)) :: RTreeObj qr (prT t a) :: l) := by
 refine calls_enter Try.func69 rfl rfl rfl hs ?_
 refine Z18 ?_; intro bx1
 refine Zb ?_
 refine Z52 ?_
 refine cd_draw (M := [_]) mx [4, 6] (by kernel_rfl) ?_
 refine Z6 ?_
 refine Zap ?_
 refine Z8o ?_
 refine rg_i (wn_none rfl) (os_call cb_51 rfl (fun w s => RWNew_calls _ _  s )) rfl rfl ?_; rintro _ _ ⟨pm1, rfl, rfl⟩; refine ⟨[_, _], rfl, ?_⟩
 refine Z10 ?_
 refine rg_i (wn_none rfl) (os_pull1 (os_call cb_18 rfl (fun w s => RPAllS_calls _ _ _ _ _ _  s hi (Nat.le_of_eq (growO_len (Nat.zero_le _)))))) rfl rfl ?_; rintro _ _ ⟨qm2, qr2, rfl, rfl⟩; refine ⟨[_, _, _, _], rfl, ?_⟩
 refine Z5b ?_
 refine Z6l ?_
 refine Z6q ?_
 refine Z5i ?_
 refine Z2i ?_
 refine rg_nil_then4 ?_
 refine Z12 ?_
 refine Z2x ?_
 refine Z25 ?_
 refine cd_pull1 ?_
 refine cd_rwOpen ?_; intro a4 c4
 refine Z3o ?_
 refine Zr ?_
 refine oq (op_field fld_47_0 rfl) ?_
 refine oq (op_ld 0 sc_45 rfl rfl rfl) ?_
 refine Zr ?_
 refine oq (op_field fld_127_1 rfl) ?_
 refine Z2b ?_
 refine oN (os_store (v := .pointer _) sc_45 rfl rfl rfl rfl (Free.zero _) rfl) ?_; rintro _ _ ⟨rfl, rfl⟩
 refine Z1 ?_
 refine Z1f ?_
 exact px_ret1 rfl (v := .int _ _) rfl (fun _ s => (((((s.del 6).del 5).del 4).del 2).del 1)) ⟨_, rfl, rfl⟩

set_option maxRecDepth 100000 in
set_option maxHeartbeats 1000000 in
theorem bname_calls {w0 w : World} {l : List HProp} (ao : Option Addr) (c : Nat) (xs : List Val) (n1 n2 n3 n4 n5 n6 n7 n8 n9 n10 n11 : Int) (k : Int) (hs : Sat w0 w (l)) (hr : Rds w0 l encVal ao xs) (hxl : xs.length ≤ 64) (hk : ∀ y ∈ xs, y.key.length ≤ 32) :
  Calls Try.prog 67 #[.agg (cfgC ⟨⟨ao, xs.length, c⟩, n1, n2, n3, n4, n5, n6, n7, n8, n9, n10, n11⟩).toArray, .int .i64 k] w (Ret w0 fun v l' => v = .agg (rootC (bName (shaM ([116, 111, 108, 108, 101, 114] ++ bytesC ⟨⟨ao, xs.length, c⟩, n1, n2, n3, n4, n5, n6, n7, n8, n9, n10, n11⟩ xs)) k)).toArray ∧ l' = l) := by
 refine calls_enter Try.func67 rfl rfl rfl hs ?_
 refine Z18 ?_; intro bx1
 refine Z1n ?_; intro bx2
 refine Z1 ?_
 refine Z5o ?_
 refine cd_cond rfl (fun hb1 => ?_) (fun hb1 => ?_)
 ·have hp1 := hb1
  (try simp only [bn] at hp1)
  refine Z0 ?_
  refine Zal ?_
  refine oi (os_call cb_63 rfl (fun w s => RRoot_calls _ _ _ _ _ _ _ _ _ _ _ _ _ _  s ((hr.cons _).cons _) (by omega) (by assumption))) ?_; rintro _ _ ⟨rfl, rfl⟩
  refine Z54 ?_
  refine Z17 ?_
  exact px_rv1 rfl (rv_cella 0 ag_24 rfl rfl (rootC_take' _) (by simp [rootC_len])) (fun _ s => ((s.del 1).del 0)) ⟨by unfold bName; rw [if_pos (by omega)], rfl⟩
 have hp1 := hb1
 (try simp only [bn] at hp1)
 refine Z9 ?_
 refine Z1a ?_
 refine oi (os_call cb_17 rfl (fun w s => Name_calls _  s )) ?_; rintro _ _ ⟨rfl, rfl⟩
 refine Z54 ?_
 exact px_rv1 rfl (rv_cella 0 ag_24 rfl rfl (rootC_take' _) (by simp [rootC_len])) (fun _ s => ((s.del 1).del 0)) ⟨by unfold bName; rw [if_neg (by omega)], rfl⟩
end Go.SL

set_option linter.unusedVariables false
set_option linter.unusedSimpArgs false
namespace Go.SL
section
variable {vs : List Val} {E : Nat → Option Root} {ns : List Node} {g : Root} {b : BookS} {a : VAct}
theorem stepB_0 (h : a.kind = 0) : stepB g b a = { b with t := (b.t.add (bName g a.root) (bName g a.parent) a.slot).2 } := if_pos h
theorem stepB_1 (h : a.kind = 1) : stepB g b a = { b with tb := (b.take ⟨a.who, a.slot, bName g a.root⟩).2 } := by unfold stepB; rw [if_neg (by omega), if_pos h]
theorem stepB_2 (h : a.kind = 2) : stepB g b a = { b with t := (keepT b.t (bName g a.root)).2 } := by unfold stepB; rw [if_neg (by omega), if_neg (by omega), if_pos h]
theorem stepB_3 (h0 : a.kind ≠ 0) (h1 : a.kind ≠ 1) (h2 : a.kind ≠ 2) : stepB g b a = { b with tb := b.tb.forget a.slot } := by unfold stepB; rw [if_neg h0, if_neg h1, if_neg h2]
theorem keepT_no {t : TreeS} {r : Root} (h : idxOf t.nodes r = none) : keepT t r = (7, t) := by unfold keepT; rw [h]
theorem keepT_yes {t : TreeS} {r : Root} {x : Nat} (h : idxOf t.nodes r = some x) : keepT t r = (0, prT t x) := by unfold keepT; rw [h]
def ownK (vs : List Val) (E : Nat → Option Root) (ns : List Node) (k : Nat) : List Int := tab ns.length fun i => sg (shareE vs E (rtA ns i)) k
end
def alQ : Cfg := ⟨⟨none, 1, 1⟩, 4, 1, 9, 1, 1, 1, 1, 1, 1, 1, 1⟩
def alX : List Val := [⟨5, [107]⟩]
def alF : Root := shaM ([116, 111, 108, 108, 101, 114] ++ bytesC alQ alX)
def alB0 : BookS := ⟨TreeS.new alF 0 9, TabS.new alX.length 4⟩
def alB1 : BookS := ⟨(alB0.t.add (nameR 1) alF 2).2, alB0.tb⟩
def alB2 : BookS := ⟨alB1.t, (alB1.take ⟨0, 2, nameR 1⟩).2⟩
theorem alB_0 (ao : Option Addr) (m k : Nat) : shaM ([116, 111, 108, 108, 101, 114] ++ bytesC ⟨⟨ao, m, k⟩, 4, 1, 9, 1, 1, 1, 1, 1, 1, 1, 1⟩ alX) = alF := rfl
theorem alB_g (ao : Option Addr) (m k : Nat) : goodC ⟨⟨ao, m, k⟩, 4, 1, 9, 1, 1, 1, 1, 1, 1, 1, 1⟩ alX = true := by simp [goodC, numsC, inR, totF, valOK, alX]
theorem alB_1 : headW alB0.t.nodes (ownB alX alB0) = alF := by decide +kernel
theorem alB_2 : (alB0.t.add (nameR 1) alF 2).1 = 0 := by decide +kernel
theorem alB_3 : (alB1.take ⟨0, 1, nameR 1⟩) = (6, alB1.tb) := if_pos (by decide +kernel)
theorem alB_4 : (alB1.take ⟨0, 2, nameR 1⟩).1 = 0 := by decide +kernel
theorem alB_5 : ofF alB2.t (ownB alX alB2).length (sumN alB2.t.nodes (ownB alX alB2)) alF = 5 := by decide +kernel
theorem alB_6 : headW alB2.t.nodes (ownB alX alB2) = nameR 1 := by decide +kernel
theorem alB_p : 0 < (ownB alX alB0).length := by decide +kernel
theorem alB_q : 0 < (ownB alX alB2).length := by decide +kernel
end Go.SL

set_option linter.unusedVariables false
set_option linter.unusedSimpArgs false
namespace Go.SL
open Go.Proofs

theorem opens_Val {H : Type} {enc : TypeId × Value → H} {W : World} : Opens enc Try.prog W 78 (fun cs => ∃ a : Val, cs = encVal.cells a ∧ (I64 a.stake ∧ a.key.length ≤ maxLen)) := fun fuel cs x h => by
 obtain ⟨hl, hf⟩ := opens_field Try.underlying78 h
 have hc : Try.prog.cellsOf 78 = 2 := by kernel_rfl
 rw [hc] at hl
 obtain ⟨n0, h0, w0⟩ := hf 0 0 3 1 _ rfl (by kernel_rfl) (opens_int Try.underlying3)
 obtain ⟨n1, h1, w1⟩ := hf 1 1 9 1 _ rfl (by kernel_rfl) (opens_string Try.underlying9)
 refine ⟨⟨n0, n1⟩, ?_, wf_i64 w0, w1⟩
 have e0 : cs.drop 0 = (cs.drop 0).take 1 ++ cs.drop 1 := seg cs 0 1
 have e1 : cs.drop 1 = (cs.drop 1).take 1 ++ cs.drop 2 := seg cs 1 1
 have eN : cs.drop 2 = [] := List.drop_eq_nil_of_le (by omega)
 have e : cs.drop 0 = [.int .i64 n0] ++ ([.string (B n1)] ++ ([])) := by rw [e0, h0, e1, h1, eN]
 rw [List.drop_zero] at e
 rw [e]
 show _ = valC _
 unfold valC
 simp

theorem opens_Cfg {H : Type} {enc : TypeId × Value → H} {W : World} : Opens enc Try.prog W 65 (fun cs => ∃ a : Cfg, cs = encCfg.cells a ∧ ((∃ ys : List Val, a.vs.n = ys.length ∧ a.vs.n ≤ a.vs.c ∧ a.vs.c ≤ maxLen ∧ Shows W encVal a.vs.a ys ∧ ∀ y ∈ ys, I64 y.stake ∧ y.key.length ≤ maxLen) ∧ I64 a.epoch ∧ I64 a.committee ∧ I64 a.nodes ∧ I64 a.orphans ∧ I64 a.early ∧ I64 a.quota ∧ I64 a.peers ∧ I64 a.bytes ∧ I64 a.window ∧ I64 a.ban ∧ I64 a.decay)) := fun fuel cs x h => by
 obtain ⟨hl, hf⟩ := opens_field Try.underlying65 h
 have hc : Try.prog.cellsOf 65 = 12 := by kernel_rfl
 rw [hc] at hl
 obtain ⟨ao0, c0, ys0, h0, hl0, hm0, hs0, hq0⟩ := hf 0 0 63 1 _ rfl (by kernel_rfl) (opens_slice encVal Try.underlying63 (by kernel_rfl) opens_Val)
 obtain ⟨n1, h1, w1⟩ := hf 1 1 3 1 _ rfl (by kernel_rfl) (opens_int Try.underlying3)
 obtain ⟨n2, h2, w2⟩ := hf 2 2 3 1 _ rfl (by kernel_rfl) (opens_int Try.underlying3)
 obtain ⟨n3, h3, w3⟩ := hf 3 3 3 1 _ rfl (by kernel_rfl) (opens_int Try.underlying3)
 obtain ⟨n4, h4, w4⟩ := hf 4 4 3 1 _ rfl (by kernel_rfl) (opens_int Try.underlying3)
 obtain ⟨n5, h5, w5⟩ := hf 5 5 3 1 _ rfl (by kernel_rfl) (opens_int Try.underlying3)
 obtain ⟨n6, h6, w6⟩ := hf 6 6 3 1 _ rfl (by kernel_rfl) (opens_int Try.underlying3)
 obtain ⟨n7, h7, w7⟩ := hf 7 7 3 1 _ rfl (by kernel_rfl) (opens_int Try.underlying3)
 obtain ⟨n8, h8, w8⟩ := hf 8 8 3 1 _ rfl (by kernel_rfl) (opens_int Try.underlying3)
 obtain ⟨n9, h9, w9⟩ := hf 9 9 3 1 _ rfl (by kernel_rfl) (opens_int Try.underlying3)
 obtain ⟨n10, h10, w10⟩ := hf 10 10 3 1 _ rfl (by kernel_rfl) (opens_int Try.underlying3)
 obtain ⟨n11, h11, w11⟩ := hf 11 11 3 1 _ rfl (by kernel_rfl) (opens_int Try.underlying3)
 refine ⟨⟨⟨ao0, ys0.length, c0⟩, n1, n2, n3, n4, n5, n6, n7, n8, n9, n10, n11⟩, ?_, ⟨ys0, rfl, hl0, hm0, hs0, hq0⟩, wf_i64 w1, wf_i64 w2, wf_i64 w3, wf_i64 w4, wf_i64 w5, wf_i64 w6, wf_i64 w7, wf_i64 w8, wf_i64 w9, wf_i64 w10, wf_i64 w11⟩
 have e0 : cs.drop 0 = (cs.drop 0).take 1 ++ cs.drop 1 := seg cs 0 1
 have e1 : cs.drop 1 = (cs.drop 1).take 1 ++ cs.drop 2 := seg cs 1 1
 have e2 : cs.drop 2 = (cs.drop 2).take 1 ++ cs.drop 3 := seg cs 2 1
 have e3 : cs.drop 3 = (cs.drop 3).take 1 ++ cs.drop 4 := seg cs 3 1
 have e4 : cs.drop 4 = (cs.drop 4).take 1 ++ cs.drop 5 := seg cs 4 1
 have e5 : cs.drop 5 = (cs.drop 5).take 1 ++ cs.drop 6 := seg cs 5 1
 have e6 : cs.drop 6 = (cs.drop 6).take 1 ++ cs.drop 7 := seg cs 6 1
 have e7 : cs.drop 7 = (cs.drop 7).take 1 ++ cs.drop 8 := seg cs 7 1
 have e8 : cs.drop 8 = (cs.drop 8).take 1 ++ cs.drop 9 := seg cs 8 1
 have e9 : cs.drop 9 = (cs.drop 9).take 1 ++ cs.drop 10 := seg cs 9 1
 have e10 : cs.drop 10 = (cs.drop 10).take 1 ++ cs.drop 11 := seg cs 10 1
 have e11 : cs.drop 11 = (cs.drop 11).take 1 ++ cs.drop 12 := seg cs 11 1
 have eN : cs.drop 12 = [] := List.drop_eq_nil_of_le (by omega)
 have e : cs.drop 0 = [.slice ao0 ys0.length c0] ++ ([.int .i64 n1] ++ ([.int .i64 n2] ++ ([.int .i64 n3] ++ ([.int .i64 n4] ++ ([.int .i64 n5] ++ ([.int .i64 n6] ++ ([.int .i64 n7] ++ ([.int .i64 n8] ++ ([.int .i64 n9] ++ ([.int .i64 n10] ++ ([.int .i64 n11] ++ ([])))))))))))) := by rw [e0, h0, e1, h1, e2, h2, e3, h3, e4, h4, e5, h5, e6, h6, e7, h7, e8, h8, e9, h9, e10, h10, e11, h11, eN]
 rw [List.drop_zero] at e
 rw [e]
 show _ = cfgC _
 unfold cfgC
 simp

theorem opens_VAct {H : Type} {enc : TypeId × Value → H} {W : World} : Opens enc Try.prog W 72 (fun cs => ∃ a : VAct, cs = encVAct.cells a ∧ (I64 a.kind ∧ I64 a.root ∧ I64 a.parent ∧ I64 a.slot ∧ I64 a.who)) := fun fuel cs x h => by
 obtain ⟨hl, hf⟩ := opens_field Try.underlying72 h
 have hc : Try.prog.cellsOf 72 = 5 := by kernel_rfl
 rw [hc] at hl
 obtain ⟨n0, h0, w0⟩ := hf 0 0 3 1 _ rfl (by kernel_rfl) (opens_int Try.underlying3)
 obtain ⟨n1, h1, w1⟩ := hf 1 1 3 1 _ rfl (by kernel_rfl) (opens_int Try.underlying3)
 obtain ⟨n2, h2, w2⟩ := hf 2 2 3 1 _ rfl (by kernel_rfl) (opens_int Try.underlying3)
 obtain ⟨n3, h3, w3⟩ := hf 3 3 3 1 _ rfl (by kernel_rfl) (opens_int Try.underlying3)
 obtain ⟨n4, h4, w4⟩ := hf 4 4 3 1 _ rfl (by kernel_rfl) (opens_int Try.underlying3)
 refine ⟨⟨n0, n1, n2, n3, n4⟩, ?_, wf_i64 w0, wf_i64 w1, wf_i64 w2, wf_i64 w3, wf_i64 w4⟩
 have e0 : cs.drop 0 = (cs.drop 0).take 1 ++ cs.drop 1 := seg cs 0 1
 have e1 : cs.drop 1 = (cs.drop 1).take 1 ++ cs.drop 2 := seg cs 1 1
 have e2 : cs.drop 2 = (cs.drop 2).take 1 ++ cs.drop 3 := seg cs 2 1
 have e3 : cs.drop 3 = (cs.drop 3).take 1 ++ cs.drop 4 := seg cs 3 1
 have e4 : cs.drop 4 = (cs.drop 4).take 1 ++ cs.drop 5 := seg cs 4 1
 have eN : cs.drop 5 = [] := List.drop_eq_nil_of_le (by omega)
 have e : cs.drop 0 = [.int .i64 n0] ++ ([.int .i64 n1] ++ ([.int .i64 n2] ++ ([.int .i64 n3] ++ ([.int .i64 n4] ++ ([]))))) := by rw [e0, h0, e1, h1, e2, h2, e3, h3, e4, h4, eN]
 rw [List.drop_zero] at e
 rw [e]
 show _ = vActC _
 unfold vActC
 simp

set_option maxRecDepth 100000 in
set_option maxHeartbeats 1000000 in
theorem vdo_calls {w0 w : World} {l : List HProp} (pb pt pw pv pm pr pq : Nat) (ao : Option Addr) (c : Nat) (xs : List Val) (n1 n2 n3 n4 n5 n6 n7 n8 n9 n10 n11 : Int) (gg : Root) (t : TreeS) (tb : TabS) (a : VAct) (hs : Sat w0 w ((Blk pb (.cells #[.slice ao xs.length c, .int .i64 n1, .int .i64 n2, .int .i64 n3, .int .i64 n4, .int .i64 n5, .int .i64 n6, .int .i64 n7, .int .i64 n8, .int .i64 n9, .int .i64 n10, .int .i64 n11, .pointer (some ⟨pt, 0, none⟩), .pointer (some ⟨pw, 0, none⟩), .pointer (some ⟨pv, 0, none⟩)] 131 (0, 0))) :: (TreeObj pt t) :: (WObj pw pt t.nodes (ownE xs (effT tb) t.nodes)) :: (TabObj pv tb) :: (Blk pm (.cells #[.slice ao xs.length c, .int .i64 n1, .int .i64 n2, .int .i64 n3, .int .i64 n4, .int .i64 n5, .int .i64 n6, .int .i64 n7, .int .i64 n8, .int .i64 n9, .int .i64 n10, .int .i64 n11, .pointer (some ⟨pr, 0, none⟩), .pointer (some ⟨pq, 0, none⟩)] 127 (0, 0))) :: (RTreeObj pr t) :: (RTabObj pq tb) :: l)) (hn : tb.latest.length = xs.length) (hsk : StkOK xs) (hxl : xs.length ≤ 64) (hk : ∀ y ∈ xs, y.key.length ≤ 32) (hr : Rds w0 l encVal ao xs) (hs0 : a.slot ≤ 9223372036854775807) (hG : (shaM ([116, 111, 108, 108, 101, 114] ++ bytesC ⟨⟨ao, xs.length, c⟩, n1, n2, n3, n4, n5, n6, n7, n8, n9, n10, n11⟩ xs)) = gg) :
  Calls Try.prog 35 #[.pointer (some ⟨pb, 0, none⟩), .pointer (some ⟨pm, 0, none⟩), .agg (vActC a).toArray] w (Ret w0 fun v l' => ∃ qt qw qr, v = .bool true ∧ l' = Blk pb (.cells #[.slice ao xs.length c, .int .i64 n1, .int .i64 n2, .int .i64 n3, .int .i64 n4, .int .i64 n5, .int .i64 n6, .int .i64 n7, .int .i64 n8, .int .i64 n9, .int .i64 n10, .int .i64 n11, .pointer (some ⟨qt, 0, none⟩), .pointer (some ⟨qw, 0, none⟩), .pointer (some ⟨pv, 0, none⟩)] 131 (0, 0)) :: TreeObj qt (stepB gg ⟨t, tb⟩ a).t :: WObj qw qt (stepB gg ⟨t, tb⟩ a).t.nodes (ownE xs (effT (stepB gg ⟨t, tb⟩ a).tb) (stepB gg ⟨t, tb⟩ a).t.nodes) :: TabObj pv (stepB gg ⟨t, tb⟩ a).tb :: Blk pm (.cells #[.slice ao xs.length c, .int .i64 n1, .int .i64 n2, .int .i64 n3, .int .i64 n4, .int .i64 n5, .int .i64 n6, .int .i64 n7, .int .i64 n8, .int .i64 n9, .int .i64 n10, .int .i64 n11, .pointer (some ⟨qr, 0, none⟩), .pointer (some ⟨pq, 0, none⟩)] 127 (0, 0)) :: RTreeObj qr (stepB gg ⟨t, tb⟩ a).t :: RTabObj pq (stepB gg ⟨t, tb⟩ a).tb :: l) := by
 subst hG
 refine calls_enter Try.func35 rfl rfl rfl hs ?_
 refine Z18 ?_; intro bx1
 refine Zf ?_
 refine Z7 ?_
 refine cd_drawe (M := []) mx [6, 7, 8] ?_
 refine Z1e ?_
 refine Z69 ?_
 refine e_q 2 rfl (wn_none rfl) (op_field fld_127_0 rfl) ?_
 refine e_q 3 rfl (wn_none rfl) (op_lda 5 ag_65 rfl rfl (by rfl) (by simp)) ?_
 refine e_q 4 rfl (wn_none rfl) (op_field fld_72_1 rfl) ?_
 refine e_q 5 rfl (wn_none rfl) (op_ld 0 sc_3 rfl rfl (vActC_a1 _)) ?_
 refine et_2 (i1 := 6) (i2 := 7) (by kernel_rfl) ?_ ?_
 ·
  refine ei_i rfl rfl (wn_none rfl) (os_call cb_67 rfl (fun w s => bname_calls _ _ _ _ _ _ _ _ _ _ _ _ _ _ _  s ((((((((hr.cons _).cons _).cons _).cons _).cons _).cons _).cons _).cons _) (by first | assumption | omega) (by assumption))) rfl ?_; rintro _ _ ⟨rfl, rfl⟩; refine ⟨[], rfl, ?_⟩
  refine Zm ?_
  refine Z9k ?_; intro bx2
  refine Zn ?_
  refine Z9l ?_
  refine Zq ?_
  refine Z12 ?_
  refine oq (op_field fld_72_0 rfl) ?_
  refine oq (op_ld 1 sc_3 rfl rfl (vActC_a0 _)) ?_
  refine Z4i ?_
  refine Z0 ?_
  refine Z48 ?_
  refine Zf ?_
  refine cd_cond rfl (fun hb1 => ?_) (fun hb1 => ?_)
  ·have hp1 := hb1
   (try simp only [bn] at hp1)
   have hk0 : a.kind = 0 := by omega
   refine cd_pull7 ?_
   refine cd_pull3 ?_
   refine Z73 ?_
   refine Z11 ?_
   refine Z7 ?_
   refine cd_drawe (M := [_, _, _, _, _]) mx [8, 11, 23, 26] ?_
   refine Z1e ?_
   refine Z7g ?_
   refine Z79 ?_
   refine e_q 3 rfl (wn_none rfl) (op_nilck rfl) ?_
   refine e_q 4 rfl (wn_none rfl) (op_field fld_127_0 rfl) ?_
   refine e_q 5 rfl (wn_none rfl) (op_lda 2 ag_65 rfl rfl (by rfl) (by simp)) ?_
   refine e_q 6 rfl (wn_none rfl) (op_field fld_72_2 rfl) ?_
   refine e_q 7 rfl (wn_none rfl) (op_ld 1 sc_3 rfl rfl (vActC_a2 _)) ?_
   refine e_q 9 rfl (wn_none rfl) (op_field fld_72_3 rfl) ?_
   refine e_q 10 rfl (wn_none rfl) (op_ld 1 sc_3 rfl rfl (vActC_a3 _)) ?_
   refine e_q 12 rfl (wn_none rfl) (op_move (v := .pointer _) rfl) ?_
   refine e_q 13 rfl (wn_none rfl) (op_nilck rfl) ?_
   refine e_q 14 rfl (wn_none rfl) (op_field fld_127_1 rfl) ?_
   refine e_q 15 rfl (wn_none rfl) (op_ld 2 sc_45 rfl rfl rfl) ?_
   refine Ze0 ?_
   refine e_q 18 rfl (wn_none rfl) (op_nilck rfl) ?_
   refine e_q 19 rfl (wn_none rfl) (op_field fld_127_0 rfl) ?_
   refine e_q 20 rfl (wn_none rfl) (op_lda 2 ag_65 rfl rfl (by rfl) (by simp)) ?_
   refine e_q 21 rfl (wn_none rfl) (op_field fld_72_2 rfl) ?_
   refine e_q 22 rfl (wn_none rfl) (op_ld 1 sc_3 rfl rfl (vActC_a2 _)) ?_
   refine e_q 24 rfl (wn_none rfl) (op_field fld_72_3 rfl) ?_
   refine e_q 25 rfl (wn_none rfl) (op_ld 1 sc_3 rfl rfl (vActC_a3 _)) ?_
   refine Zn ?_
   refine Zaq ?_
   refine Z2o ?_
   refine Zd1 ?_
   refine Z4x ?_
   refine Zaq ?_
   refine et_1 (i := 26) (by kernel_rfl) ?_
   refine Zd2 ?_
   refine e_q 27 rfl (wn_none rfl) (op_eq rfl rfl) ?_
   refine Z6m ?_
   refine Z1c ?_
   refine Z2r ?_
   rw [stepB_0 (g := (shaM ([116, 111, 108, 108, 101, 114] ++ bytesC ⟨⟨ao, xs.length, c⟩, n1, n2, n3, n4, n5, n6, n7, n8, n9, n10, n11⟩ xs))) (b := ⟨t, tb⟩) hk0]
   exact Zd3
  have hp1 := hb1
  (try simp only [bn] at hp1)
  have hk0 : a.kind ≠ 0 := by omega
  refine Z0 ?_
  refine Z48 ?_
  refine Zf ?_
  refine cd_cond rfl (fun hb2 => ?_) (fun hb2 => ?_)
  ·have hp2 := hb2
   (try simp only [bn] at hp2)
   have hk1 : a.kind = 1 := by omega
   refine Z0 ?_
   refine oq (op_field fld_72_4 rfl) ?_
   refine oq (op_ld 1 sc_3 rfl rfl (vActC_a4 _)) ?_
   refine Zb0 ?_
   refine Z2n ?_
   refine Zd4 ?_
   refine Zad ?_; intro bx3
   refine Z7m ?_
   refine Z1 ?_
   refine cd_pull7 ?_
   refine cd_pull8 ?_
   refine cd_pull9 ?_
   refine Z11 ?_
   refine cd_pull7 ?_
   refine cd_pull8 ?_
   refine cd_pull9 ?_
   refine Z7 ?_
   refine cd_draw (M := [_, _, _, _, _, _, _]) mx [2, 5] (by kernel_rfl) ?_
   refine Ze ?_
   refine Zar ?_
   refine Zd5 ?_
   refine Ze ?_
   refine Zar ?_
   refine Zd6 ?_
   refine Z8p ?_
   refine Z2i ?_
   refine rg_nil_then7 ?_
   refine cd_ret ?_
   refine Z2r ?_
   rw [stepB_1 (g := (shaM ([116, 111, 108, 108, 101, 114] ++ bytesC ⟨⟨ao, xs.length, c⟩, n1, n2, n3, n4, n5, n6, n7, n8, n9, n10, n11⟩ xs))) (b := ⟨t, tb⟩) hk1]
   exact Zd7
  have hp2 := hb2
  (try simp only [bn] at hp2)
  have hk1 : a.kind ≠ 1 := by omega
  refine Z0 ?_
  refine Z48 ?_
  refine Zf ?_
  refine cd_cond rfl (fun hb3 => ?_) (fun hb3 => ?_)
  ·have hp3 := hb3
   (try simp only [bn] at hp3)
   have hk2 : a.kind = 2 := by omega
   rcases hix : idxOf t.nodes (bName (shaM ([116, 111, 108, 108, 101, 114] ++ bytesC ⟨⟨ao, xs.length, c⟩, n1, n2, n3, n4, n5, n6, n7, n8, n9, n10, n11⟩ xs)) a.root) with _ | x0
   ·
    refine Z11 ?_
    refine cd_pull7 ?_
    refine Z73 ?_
    refine Z11 ?_
    refine Z7 ?_
    refine Zas ?_
    refine Ze ?_
    refine Z10 ?_
    refine Zd8 ?_
    refine Ze ?_
    refine Z10 ?_
    refine Zd9 ?_
    refine Z8p ?_
    refine Z2i ?_
    refine rg_nil_then5 ?_
    refine cd_ret ?_
    refine Z2r ?_
    rw [stepB_2 (g := (shaM ([116, 111, 108, 108, 101, 114] ++ bytesC ⟨⟨ao, xs.length, c⟩, n1, n2, n3, n4, n5, n6, n7, n8, n9, n10, n11⟩ xs))) (b := ⟨t, tb⟩) hk2, keepT_no hix]
    exact Zat
   refine Z11 ?_
   refine cd_pull7 ?_
   refine Z73 ?_
   refine Z11 ?_
   refine Z7 ?_
   refine Zas ?_
   refine Ze ?_
   refine Z10 ?_
   refine Zda ?_; intro qt10 qw10
   refine Ze ?_
   refine Z10 ?_
   refine Zdb ?_; intro qr11
   refine Z8p ?_
   refine Z2i ?_
   refine rg_nil_then5 ?_
   refine cd_ret ?_
   refine Z2r ?_
   rw [stepB_2 (g := (shaM ([116, 111, 108, 108, 101, 114] ++ bytesC ⟨⟨ao, xs.length, c⟩, n1, n2, n3, n4, n5, n6, n7, n8, n9, n10, n11⟩ xs))) (b := ⟨t, tb⟩) hk2, keepT_yes hix]
   exact Zat
  have hp3 := hb3
  (try simp only [bn] at hp3)
  have hk2 : a.kind ≠ 2 := by omega
  refine cd_skip ?_
  refine Z9n ?_
  refine Zc ?_
  refine Zb0 ?_
  refine ol_pull5 ?_
  refine Zo ?_
  refine oi (os_call cb_70 rfl (fun w s => BForget_calls _ _ _ _ _ _ _ _ _ _ _ _ _ _ _ _ _ _ _ _  s (by omega))) ?_; rintro _ _ ⟨rfl, rfl⟩
  refine Z1 ?_
  refine cd_pull8 ?_
  refine Z7 ?_
  refine cd_draw (M := [_]) mx [6] (by kernel_rfl) ?_
  refine Z6 ?_
  refine rg_q (wn_none rfl) (op_field fld_127_2 rfl) rfl rfl ?_
  refine rg_q (wn_none rfl) (op_ld 6 sc_125 rfl rfl rfl) rfl rfl ?_
  refine rg_q (wn_none rfl) (op_field fld_72_3 rfl) rfl rfl ?_
  refine rg_q (wn_none rfl) (op_ld 3 sc_3 rfl rfl (vActC_a3 _)) rfl rfl ?_
  refine Zdc ?_
  refine rg_nil_then1 ?_
  refine Z0 ?_
  refine Zh ?_
  rw [stepB_3 (g := (shaM ([116, 111, 108, 108, 101, 114] ++ bytesC ⟨⟨ao, xs.length, c⟩, n1, n2, n3, n4, n5, n6, n7, n8, n9, n10, n11⟩ xs))) (b := ⟨t, tb⟩) hk0 hk1 hk2, forget_eff]
  exact Zdd
 refine Z9k ?_; intro bx4
 refine Zz ?_
 refine ei_i rfl rfl (wn_none rfl) (os_call cb_67 rfl (fun w s => bname_calls _ _ _ _ _ _ _ _ _ _ _ _ _ _ _  s (((((((((hr.cons _).cons _).cons _).cons _).cons _).cons _).cons _).cons _).cons _) (by first | assumption | omega) (by assumption))) rfl ?_; rintro _ _ ⟨rfl, rfl⟩; refine ⟨[_], rfl, ?_⟩
 refine Zn ?_
 refine Z9l ?_
 refine Zq ?_
 refine Z12 ?_
 refine oq (op_field fld_72_0 rfl) ?_
 refine oq (op_ld 1 sc_3 rfl rfl (vActC_a0 _)) ?_
 refine Z4i ?_
 refine Z0 ?_
 refine Z48 ?_
 refine Zf ?_
 refine cd_cond rfl (fun hb4 => ?_) (fun hb4 => ?_)
 ·have hp4 := hb4
  (try simp only [bn] at hp4)
  have hk0 : a.kind = 0 := by omega
  refine cd_pull7 ?_
  refine cd_pull3 ?_
  refine Z73 ?_
  refine Z11 ?_
  refine Z7 ?_
  refine cd_drawe (M := [_, _, _, _, _]) mx [8, 11, 23, 26] ?_
  refine Z1e ?_
  refine Z7g ?_
  refine Z79 ?_
  refine e_q 3 rfl (wn_none rfl) (op_nilck rfl) ?_
  refine e_q 4 rfl (wn_none rfl) (op_field fld_127_0 rfl) ?_
  refine e_q 5 rfl (wn_none rfl) (op_lda 2 ag_65 rfl rfl (by rfl) (by simp)) ?_
  refine e_q 6 rfl (wn_none rfl) (op_field fld_72_2 rfl) ?_
  refine e_q 7 rfl (wn_none rfl) (op_ld 1 sc_3 rfl rfl (vActC_a2 _)) ?_
  refine e_q 9 rfl (wn_none rfl) (op_field fld_72_3 rfl) ?_
  refine e_q 10 rfl (wn_none rfl) (op_ld 1 sc_3 rfl rfl (vActC_a3 _)) ?_
  refine e_q 12 rfl (wn_none rfl) (op_move (v := .pointer _) rfl) ?_
  refine e_q 13 rfl (wn_none rfl) (op_nilck rfl) ?_
  refine e_q 14 rfl (wn_none rfl) (op_field fld_127_1 rfl) ?_
  refine e_q 15 rfl (wn_none rfl) (op_ld 2 sc_45 rfl rfl rfl) ?_
  refine Ze0 ?_
  refine e_q 18 rfl (wn_none rfl) (op_nilck rfl) ?_
  refine e_q 19 rfl (wn_none rfl) (op_field fld_127_0 rfl) ?_
  refine e_q 20 rfl (wn_none rfl) (op_lda 2 ag_65 rfl rfl (by rfl) (by simp)) ?_
  refine e_q 21 rfl (wn_none rfl) (op_field fld_72_2 rfl) ?_
  refine e_q 22 rfl (wn_none rfl) (op_ld 1 sc_3 rfl rfl (vActC_a2 _)) ?_
  refine e_q 24 rfl (wn_none rfl) (op_field fld_72_3 rfl) ?_
  refine e_q 25 rfl (wn_none rfl) (op_ld 1 sc_3 rfl rfl (vActC_a3 _)) ?_
  refine Zn ?_
  refine Zaq ?_
  refine Z2o ?_
  refine Zd1 ?_
  refine Z4x ?_
  refine Zaq ?_
  refine et_1 (i := 26) (by kernel_rfl) ?_
  refine Zd2 ?_
  refine e_q 27 rfl (wn_none rfl) (op_eq rfl rfl) ?_
  refine Z6m ?_
  refine Z1c ?_
  refine Z2r ?_
  rw [stepB_0 (g := (shaM ([116, 111, 108, 108, 101, 114] ++ bytesC ⟨⟨ao, xs.length, c⟩, n1, n2, n3, n4, n5, n6, n7, n8, n9, n10, n11⟩ xs))) (b := ⟨t, tb⟩) hk0]
  exact Zd3
 have hp4 := hb4
 (try simp only [bn] at hp4)
 have hk0 : a.kind ≠ 0 := by omega
 refine Z0 ?_
 refine Z48 ?_
 refine Zf ?_
 refine cd_cond rfl (fun hb5 => ?_) (fun hb5 => ?_)
 ·have hp5 := hb5
  (try simp only [bn] at hp5)
  have hk1 : a.kind = 1 := by omega
  refine Z0 ?_
  refine oq (op_field fld_72_4 rfl) ?_
  refine oq (op_ld 1 sc_3 rfl rfl (vActC_a4 _)) ?_
  refine Zb0 ?_
  refine Z2n ?_
  refine Zd4 ?_
  refine Zad ?_; intro bx5
  refine Z7m ?_
  refine Z1 ?_
  refine cd_pull7 ?_
  refine cd_pull8 ?_
  refine cd_pull9 ?_
  refine Z11 ?_
  refine cd_pull7 ?_
  refine cd_pull8 ?_
  refine cd_pull9 ?_
  refine Z7 ?_
  refine cd_draw (M := [_, _, _, _, _, _, _]) mx [2, 5] (by kernel_rfl) ?_
  refine Ze ?_
  refine Zar ?_
  refine Zd5 ?_
  refine Ze ?_
  refine Zar ?_
  refine Zd6 ?_
  refine Z8p ?_
  refine Z2i ?_
  refine rg_nil_then7 ?_
  refine cd_ret ?_
  refine Z2r ?_
  rw [stepB_1 (g := (shaM ([116, 111, 108, 108, 101, 114] ++ bytesC ⟨⟨ao, xs.length, c⟩, n1, n2, n3, n4, n5, n6, n7, n8, n9, n10, n11⟩ xs))) (b := ⟨t, tb⟩) hk1]
  exact Zd7
 have hp5 := hb5
 (try simp only [bn] at hp5)
 have hk1 : a.kind ≠ 1 := by omega
 refine Z0 ?_
 refine Z48 ?_
 refine Zf ?_
 refine cd_cond rfl (fun hb6 => ?_) (fun hb6 => ?_)
 ·have hp6 := hb6
  (try simp only [bn] at hp6)
  have hk2 : a.kind = 2 := by omega
  rcases hix : idxOf t.nodes (bName (shaM ([116, 111, 108, 108, 101, 114] ++ bytesC ⟨⟨ao, xs.length, c⟩, n1, n2, n3, n4, n5, n6, n7, n8, n9, n10, n11⟩ xs)) a.root) with _ | x0
  ·
   refine Z11 ?_
   refine cd_pull7 ?_
   refine Z73 ?_
   refine Z11 ?_
   refine Z7 ?_
   refine Zas ?_
   refine Ze ?_
   refine Z10 ?_
   refine Zd8 ?_
   refine Ze ?_
   refine Z10 ?_
   refine Zd9 ?_
   refine Z8p ?_
   refine Z2i ?_
   refine rg_nil_then5 ?_
   refine cd_ret ?_
   refine Z2r ?_
   rw [stepB_2 (g := (shaM ([116, 111, 108, 108, 101, 114] ++ bytesC ⟨⟨ao, xs.length, c⟩, n1, n2, n3, n4, n5, n6, n7, n8, n9, n10, n11⟩ xs))) (b := ⟨t, tb⟩) hk2, keepT_no hix]
   exact Zat
  refine Z11 ?_
  refine cd_pull7 ?_
  refine Z73 ?_
  refine Z11 ?_
  refine Z7 ?_
  refine Zas ?_
  refine Ze ?_
  refine Z10 ?_
  refine Zda ?_; intro qt23 qw23
  refine Ze ?_
  refine Z10 ?_
  refine Zdb ?_; intro qr24
  refine Z8p ?_
  refine Z2i ?_
  refine rg_nil_then5 ?_
  refine cd_ret ?_
  refine Z2r ?_
  rw [stepB_2 (g := (shaM ([116, 111, 108, 108, 101, 114] ++ bytesC ⟨⟨ao, xs.length, c⟩, n1, n2, n3, n4, n5, n6, n7, n8, n9, n10, n11⟩ xs))) (b := ⟨t, tb⟩) hk2, keepT_yes hix]
  exact Zat
 have hp6 := hb6
 (try simp only [bn] at hp6)
 have hk2 : a.kind ≠ 2 := by omega
 refine cd_skip ?_
 refine Z9n ?_
 refine Zc ?_
 refine Zb0 ?_
 refine ol_pull5 ?_
 refine Zo ?_
 refine oi (os_call cb_70 rfl (fun w s => BForget_calls _ _ _ _ _ _ _ _ _ _ _ _ _ _ _ _ _ _ _ _  s (by omega))) ?_; rintro _ _ ⟨rfl, rfl⟩
 refine Z1 ?_
 refine cd_pull8 ?_
 refine Z7 ?_
 refine cd_draw (M := [_]) mx [6] (by kernel_rfl) ?_
 refine Z6 ?_
 refine rg_q (wn_none rfl) (op_field fld_127_2 rfl) rfl rfl ?_
 refine rg_q (wn_none rfl) (op_ld 6 sc_125 rfl rfl rfl) rfl rfl ?_
 refine rg_q (wn_none rfl) (op_field fld_72_3 rfl) rfl rfl ?_
 refine rg_q (wn_none rfl) (op_ld 3 sc_3 rfl rfl (vActC_a3 _)) rfl rfl ?_
 refine Zdc ?_
 refine rg_nil_then1 ?_
 refine Z0 ?_
 refine Zh ?_
 rw [stepB_3 (g := (shaM ([116, 111, 108, 108, 101, 114] ++ bytesC ⟨⟨ao, xs.length, c⟩, n1, n2, n3, n4, n5, n6, n7, n8, n9, n10, n11⟩ xs))) (b := ⟨t, tb⟩) hk0 hk1 hk2, forget_eff]
 exact Zdd

set_option maxRecDepth 100000 in
set_option maxHeartbeats 1000000 in
theorem vbegun_calls {w0 w : World} {l : List HProp} (ao : Option Addr) (c : Nat) (xs : List Val) (n1 n2 n3 n4 n5 n6 n7 n8 n9 n10 n11 : Int) (lo : Option Addr) (lc : Nat) (acts : List VAct) (most : Int) (hs : Sat w0 w (l)) (hr : Rds w0 l encVal ao xs) (hq : ∀ y ∈ xs, I64 y.stake ∧ y.key.length ≤ maxLen) (hm : most ≤ 1000) :
  Calls Try.prog 34 #[.agg (cfgC ⟨⟨ao, xs.length, c⟩, n1, n2, n3, n4, n5, n6, n7, n8, n9, n10, n11⟩).toArray, .slice lo acts.length lc, .int .i64 most] w (Ret w0 fun v l' => ((greatC xs = true ∨ most < (acts.length : Int) ∨ goodC ⟨⟨ao, xs.length, c⟩, n1, n2, n3, n4, n5, n6, n7, n8, n9, n10, n11⟩ xs = false) ∧ v = .tuple #[.pointer none, .pointer none, .bool false] ∧ l' = l) ∨ (goodC ⟨⟨ao, xs.length, c⟩, n1, n2, n3, n4, n5, n6, n7, n8, n9, n10, n11⟩ xs = true ∧ (acts.length : Int) ≤ most ∧ ∃ pb pt pw pv pm pr pq, v = .tuple #[.pointer (some ⟨pb, 0, none⟩), .pointer (some ⟨pm, 0, none⟩), .bool true] ∧ l' = Blk pb (.cells #[.slice ao xs.length c, .int .i64 n1, .int .i64 n2, .int .i64 n3, .int .i64 n4, .int .i64 n5, .int .i64 n6, .int .i64 n7, .int .i64 n8, .int .i64 n9, .int .i64 n10, .int .i64 n11, .pointer (some ⟨pt, 0, none⟩), .pointer (some ⟨pw, 0, none⟩), .pointer (some ⟨pv, 0, none⟩)] 131 (0, 0)) :: TreeObj pt (newB (shaM ([116, 111, 108, 108, 101, 114] ++ bytesC ⟨⟨ao, xs.length, c⟩, n1, n2, n3, n4, n5, n6, n7, n8, n9, n10, n11⟩ xs)) n3 xs.length n1).t :: WObj pw pt (newB (shaM ([116, 111, 108, 108, 101, 114] ++ bytesC ⟨⟨ao, xs.length, c⟩, n1, n2, n3, n4, n5, n6, n7, n8, n9, n10, n11⟩ xs)) n3 xs.length n1).t.nodes (ownE xs (effT (newB (shaM ([116, 111, 108, 108, 101, 114] ++ bytesC ⟨⟨ao, xs.length, c⟩, n1, n2, n3, n4, n5, n6, n7, n8, n9, n10, n11⟩ xs)) n3 xs.length n1).tb) (newB (shaM ([116, 111, 108, 108, 101, 114] ++ bytesC ⟨⟨ao, xs.length, c⟩, n1, n2, n3, n4, n5, n6, n7, n8, n9, n10, n11⟩ xs)) n3 xs.length n1).t.nodes) :: TabObj pv (newB (shaM ([116, 111, 108, 108, 101, 114] ++ bytesC ⟨⟨ao, xs.length, c⟩, n1, n2, n3, n4, n5, n6, n7, n8, n9, n10, n11⟩ xs)) n3 xs.length n1).tb :: Blk pm (.cells #[.slice ao xs.length c, .int .i64 n1, .int .i64 n2, .int .i64 n3, .int .i64 n4, .int .i64 n5, .int .i64 n6, .int .i64 n7, .int .i64 n8, .int .i64 n9, .int .i64 n10, .int .i64 n11, .pointer (some ⟨pr, 0, none⟩), .pointer (some ⟨pq, 0, none⟩)] 127 (0, 0)) :: RTreeObj pr (newB (shaM ([116, 111, 108, 108, 101, 114] ++ bytesC ⟨⟨ao, xs.length, c⟩, n1, n2, n3, n4, n5, n6, n7, n8, n9, n10, n11⟩ xs)) n3 xs.length n1).t :: RTabObj pq (newB (shaM ([116, 111, 108, 108, 101, 114] ++ bytesC ⟨⟨ao, xs.length, c⟩, n1, n2, n3, n4, n5, n6, n7, n8, n9, n10, n11⟩ xs)) n3 xs.length n1).tb :: l)) := by
 refine calls_enter Try.func34 rfl rfl rfl hs ?_
 refine Z45 ?_; intro bx1
 refine Zd ?_
 refine Z3a ?_
 refine Z4f ?_
 refine oi (os_call cb_65 rfl (fun w s => Great_calls _ _ _ _ _ _ _ _ _ _ _ _ _ _  s (hr.cons _))) ?_; rintro _ _ ⟨rfl, rfl⟩
 refine Z5 ?_
 refine ol_split 14 rfl (fun hb1 => ?_) (fun hb1 => ?_)
 ·have hp1 := hb1
  (try simp only [bn] at hp1)
  have hb1 : greatC xs = true := by simpa using hb1
  refine Z3w ?_
  refine Z27 ?_
  refine Z3x ?_
  refine Zd ?_
  refine Zp ?_
  exact px_ret3 rfl (v1 := .pointer _) (v2 := .pointer _) (v3 := .bool _) rfl rfl rfl (fun _ s => (s.del 0)) (.inl ⟨.inl hb1, rfl, rfl⟩)
 have hp1 := hb1
 (try simp only [bn] at hp1)
 have hgr : greatC xs = false := by simpa using hb1
 have hxl : xs.length ≤ 100 := by unfold greatC at hgr; rw [Bool.or_eq_false_iff] at hgr; have := of_decide_eq_false hgr.1; omega
 refine ol_q (wn_some rfl rfl rfl hb1 rfl) (op_move (v := .slice _ _ _) rfl) rfl ?_
 refine ol_q (wn_some rfl rfl rfl hb1 rfl) (op_len_slice Try.underlying66 rfl) rfl ?_
 refine Z2u ?_
 refine Z8v ?_
 refine Z28 ?_
 refine Z1 ?_
 refine cd_cond rfl (fun hb2 => ?_) (fun hb2 => ?_)
 ·have hp2 := hb2
  (try simp only [bn] at hp2)
  refine Z38 ?_
  refine Zd ?_
  refine Zp ?_
  exact px_ret3 rfl (v1 := .pointer _) (v2 := .pointer _) (v3 := .bool _) rfl rfl rfl (fun _ s => (s.del 0)) (.inl ⟨.inr (.inl (by omega)), rfl, rfl⟩)
 have hp2 := hb2
 (try simp only [bn] at hp2)
 refine Z9 ?_
 rcases hgc : goodC ⟨⟨ao, xs.length, c⟩, n1, n2, n3, n4, n5, n6, n7, n8, n9, n10, n11⟩ xs
 ·
  refine Z0 ?_
  refine Z4f ?_
  refine oi (os_call cb_62 rfl (fun w s => BNewN_calls _ _ _ _ _ _ _ _ _ _ _ _ _ _  s (by assumption) (hr.cons _) (by omega))) ?_; rintro _ _ ⟨rfl, rfl⟩
  refine Zd ?_
  refine Z1b ?_
  refine Z4f ?_
  refine oi (os_call cb_66 rfl (fun w s => RBNewN_calls _ _ _ _ _ _ _ _ _ _ _ _ _ _  s (by assumption) (hr.cons _) (by omega) (by assumption))) ?_; rintro _ _ ⟨rfl, rfl⟩
  refine Z2v ?_
  refine Z3t ?_
  refine Z47 ?_
  refine Zd ?_
  refine Zf ?_
  refine Z3o ?_
  refine Z5 ?_
  refine Z60 ?_
  refine Z76 ?_
  refine Zd ?_
  refine Zd ?_
  refine Zh ?_
  exact px_ret3 rfl (v1 := .pointer _) (v2 := .pointer _) (v3 := .bool _) rfl rfl rfl (fun _ s => (s.del 0)) (.inl ⟨.inr (.inr rfl), rfl, rfl⟩)
 refine Z0 ?_
 refine Z4f ?_
 refine oi (os_call cb_62 rfl (fun w s => BNewS_calls _ _ _ _ _ _ _ _ _ _ _ _ _ _  s (by assumption) (hr.cons _))) ?_; rintro _ _ ⟨pb4, pt4, pw4, pv4, rfl, rfl⟩
 refine Zd ?_
 refine Z1b ?_
 refine oq (op_lda (L := cfgC _) 4 ag_65 rfl rfl (cfgC_ta _) (by simp [cfgC_len])) ?_
 refine oi (os_call cb_66 rfl (fun w s => RBNewS_calls _ _ _ _ _ _ _ _ _ _ _ _ _ _  s (by assumption) (((((hr.cons _).cons _).cons _).cons _).cons _) (by assumption))) ?_; rintro _ _ ⟨pm5, pr5, pq5, rfl, rfl⟩
 refine Z2v ?_
 refine Z3t ?_
 refine Z47 ?_
 refine Zd ?_
 refine Zf ?_
 refine Z3o ?_
 refine Z5 ?_
 refine Z5 ?_
 refine ol_q (wn_some rfl rfl rfl rfl rfl) (op_move (v := .pointer _) rfl) rfl ?_
 refine ol_q (wn_some rfl rfl rfl rfl rfl) (op_nenil Try.underlying67 rfl rfl) rfl ?_
 refine Z6o ?_
 refine Zd ?_
 refine Zd ?_
 refine Zh ?_
 exact px_ret3 rfl (v1 := .pointer _) (v2 := .pointer _) (v3 := .bool true) (l' := Blk pb4 (.cells #[.slice ao xs.length c, .int .i64 n1, .int .i64 n2, .int .i64 n3, .int .i64 n4, .int .i64 n5, .int .i64 n6, .int .i64 n7, .int .i64 n8, .int .i64 n9, .int .i64 n10, .int .i64 n11, .pointer (some ⟨_, 0, none⟩), .pointer (some ⟨_, 0, none⟩), .pointer (some ⟨_, 0, none⟩)] 131 (0, 0)) :: TreeObj _ (newB (shaM ([116, 111, 108, 108, 101, 114] ++ bytesC ⟨⟨ao, xs.length, c⟩, n1, n2, n3, n4, n5, n6, n7, n8, n9, n10, n11⟩ xs)) n3 xs.length n1).t :: WObj _ _ (newB (shaM ([116, 111, 108, 108, 101, 114] ++ bytesC ⟨⟨ao, xs.length, c⟩, n1, n2, n3, n4, n5, n6, n7, n8, n9, n10, n11⟩ xs)) n3 xs.length n1).t.nodes (ownE xs (effT (newB (shaM ([116, 111, 108, 108, 101, 114] ++ bytesC ⟨⟨ao, xs.length, c⟩, n1, n2, n3, n4, n5, n6, n7, n8, n9, n10, n11⟩ xs)) n3 xs.length n1).tb) (newB (shaM ([116, 111, 108, 108, 101, 114] ++ bytesC ⟨⟨ao, xs.length, c⟩, n1, n2, n3, n4, n5, n6, n7, n8, n9, n10, n11⟩ xs)) n3 xs.length n1).t.nodes) :: TabObj _ (newB (shaM ([116, 111, 108, 108, 101, 114] ++ bytesC ⟨⟨ao, xs.length, c⟩, n1, n2, n3, n4, n5, n6, n7, n8, n9, n10, n11⟩ xs)) n3 xs.length n1).tb :: Blk pm5 (.cells #[.slice ao xs.length c, .int .i64 n1, .int .i64 n2, .int .i64 n3, .int .i64 n4, .int .i64 n5, .int .i64 n6, .int .i64 n7, .int .i64 n8, .int .i64 n9, .int .i64 n10, .int .i64 n11, .pointer (some ⟨_, 0, none⟩), .pointer (some ⟨_, 0, none⟩)] 127 (0, 0)) :: RTreeObj _ (newB (shaM ([116, 111, 108, 108, 101, 114] ++ bytesC ⟨⟨ao, xs.length, c⟩, n1, n2, n3, n4, n5, n6, n7, n8, n9, n10, n11⟩ xs)) n3 xs.length n1).t :: RTabObj _ (newB (shaM ([116, 111, 108, 108, 101, 114] ++ bytesC ⟨⟨ao, xs.length, c⟩, n1, n2, n3, n4, n5, n6, n7, n8, n9, n10, n11⟩ xs)) n3 xs.length n1).tb :: l) rfl rfl rfl (fun _ s => ((((((((s.del 7).pull 2).pull 2).pull 2).pull 6).pull 6).pull 6).pull 6)) (.inr ⟨rfl, by omega, _, _, _, _, _, _, _, rfl, rfl⟩)
end Go.SL

set_option linter.unusedVariables false
set_option linter.unusedSimpArgs false
namespace Go.SL
open Go.Proofs

set_option maxRecDepth 100000 in
set_option maxHeartbeats 1000000 in
theorem vAlive_calls {w0 w : World} {l : List HProp}  (hs : Sat w0 w (l))  :
  Calls Try.prog 33 #[] w (Ret w0 fun v l' => v = .bool true ∧ l' = l) := by
 refine calls_enter Try.func33 rfl rfl rfl hs ?_
 refine Z0 ?_
 refine Z4k ?_
 refine oq (op_build (L := valC ⟨5, [107]⟩) (vs := [(0, .int _ _), (1, .string _)]) bB_78 rfl ⟨⟨rfl, by rw [valC_len]; rfl⟩, ⟨rfl, by rw [valC_len]; rfl⟩, trivial⟩ (by simp [fill2, valC, Val.zero, SlV.v, B, Value.cells])) ?_
 refine oi (os_bslice (E := encVal) [_] (ys := alX) sB_63 zv_78 rfl rfl rfl rfl (by decide)) ?_; rintro _ _ ⟨ao1, rfl, rfl⟩
 refine oq (op_build (L := cfgC ⟨⟨ao1, 1, 1⟩, 4, 1, 9, 1, 1, 1, 1, 1, 1, 1, 1⟩) (vs := [(0, (SlV.v ⟨_, _, _⟩)), (1, .int _ _), (2, .int _ _), (3, .int _ _), (4, .int _ _), (5, .int _ _), (6, .int _ _), (7, .int _ _), (8, .int _ _), (9, .int _ _), (10, .int _ _), (11, .int _ _)]) bB_65 rfl ⟨⟨rfl, by rw [cfgC_len]; rfl⟩, ⟨rfl, by rw [cfgC_len]; rfl⟩, ⟨rfl, by rw [cfgC_len]; rfl⟩, ⟨rfl, by rw [cfgC_len]; rfl⟩, ⟨rfl, by rw [cfgC_len]; rfl⟩, ⟨rfl, by rw [cfgC_len]; rfl⟩, ⟨rfl, by rw [cfgC_len]; rfl⟩, ⟨rfl, by rw [cfgC_len]; rfl⟩, ⟨rfl, by rw [cfgC_len]; rfl⟩, ⟨rfl, by rw [cfgC_len]; rfl⟩, ⟨rfl, by rw [cfgC_len]; rfl⟩, ⟨rfl, by rw [cfgC_len]; rfl⟩, trivial⟩ (by simp [fill2, cfgC, Cfg.zero, SlV.v, B, Value.cells])) ?_
 refine oi (os_alloc (cs := (cfgC Cfg.zero).toArray) zB_65 (by kernel_rfl)) ?_; rintro _ _ ⟨bx1, rfl, rfl⟩
 refine oN (os_storew (cfgC _) ag_65 rfl rfl (cfgC_len _) (cfgC_one _) (by simp [cfgC_len]) (Free.zero _)) ?_; rintro _ _ ⟨rfl, rfl⟩
 refine Z1 ?_
 have hgg := alB_g ao1 alX.length 1
 have hsk := goodC_stk hgg
 have hkk : ∀ y ∈ alX, y.key.length ≤ 32 := by decide
 have hh1 : headW (TreeS.new alF 0 9).nodes (ownE alX (effT (TabS.new alX.length 4)) (TreeS.new alF 0 9).nodes) = alF := alB_1
 have hh2 : ((TreeS.new alF 0 9).add (nameR 1) alF 2).1 = 0 := alB_2
 have hh3 : BookS.take ⟨((TreeS.new alF 0 9).add (nameR 1) alF 2).2, (TabS.new alX.length 4)⟩ ⟨0, 1, nameR 1⟩ = (6, (TabS.new alX.length 4)) := alB_3
 have hh4 : (BookS.take ⟨((TreeS.new alF 0 9).add (nameR 1) alF 2).2, (TabS.new alX.length 4)⟩ ⟨0, 2, nameR 1⟩).1 = 0 := alB_4
 have hh5 : ofF ((TreeS.new alF 0 9).add (nameR 1) alF 2).2 (ownE alX (effT (BookS.take ⟨((TreeS.new alF 0 9).add (nameR 1) alF 2).2, (TabS.new alX.length 4)⟩ ⟨0, 2, nameR 1⟩).2) ((TreeS.new alF 0 9).add (nameR 1) alF 2).2.nodes).length (sumN ((TreeS.new alF 0 9).add (nameR 1) alF 2).2.nodes (ownE alX (effT (BookS.take ⟨((TreeS.new alF 0 9).add (nameR 1) alF 2).2, (TabS.new alX.length 4)⟩ ⟨0, 2, nameR 1⟩).2) ((TreeS.new alF 0 9).add (nameR 1) alF 2).2.nodes)) alF = 5 := alB_5
 have hh6 : headW ((TreeS.new alF 0 9).add (nameR 1) alF 2).2.nodes (ownE alX (effT (BookS.take ⟨((TreeS.new alF 0 9).add (nameR 1) alF 2).2, (TabS.new alX.length 4)⟩ ⟨0, 2, nameR 1⟩).2) ((TreeS.new alF 0 9).add (nameR 1) alF 2).2.nodes) = nameR 1 := alB_6
 have hq1 : 0 < (ownE alX (effT (TabS.new alX.length 4)) (TreeS.new alF 0 9).nodes).length := alB_p
 have hq2 : 0 < (ownE alX (effT (BookS.take ⟨((TreeS.new alF 0 9).add (nameR 1) alF 2).2, (TabS.new alX.length 4)⟩ ⟨0, 2, nameR 1⟩).2) ((TreeS.new alF 0 9).add (nameR 1) alF 2).2.nodes).length := alB_q
 have hll2 : (BookS.take ⟨((TreeS.new alF 0 9).add (nameR 1) alF 2).2, (TabS.new alX.length 4)⟩ ⟨0, 1, nameR 1⟩).2.latest.length = alX.length := by rw [hh3]; rfl
 refine Z0 ?_
 refine Z4f ?_
 refine oi (os_call cb_62 rfl (fun w s => BNewS_calls (ao := ao1) (c := 1) (xs := alX) (n1 := 4) (n2 := 1) (n3 := 9) (n4 := 1) (n5 := 1) (n6 := 1) (n7 := 1) (n8 := 1) (n9 := 1) (n10 := 1) (n11 := 1)  s hgg (rds_row 1 rfl rfl))) ?_; rintro _ _ ⟨pb1, pt1, pw1, pv1, rfl, rfl⟩; rw [alB_0]
 refine Zd ?_
 refine Z1b ?_
 refine oq (op_lda (L := cfgC _) 4 ag_65 rfl rfl (cfgC_ta _) (by simp [cfgC_len])) ?_
 refine oi (os_call cb_63 rfl (fun w s => RRoot_calls (ao := ao1) (c := 1) (xs := alX) (n1 := 4) (n2 := 1) (n3 := 9) (n4 := 1) (n5 := 1) (n6 := 1) (n7 := 1) (n8 := 1) (n9 := 1) (n10 := 1) (n11 := 1)  s (rds_row 5 rfl rfl) (by decide) hkk)) ?_; rintro _ _ ⟨rfl, rfl⟩; rw [alB_0]
 refine Z1n ?_; intro bx2
 refine Z3l ?_
 refine Z1b ?_
 refine oi (os_call cb_17 rfl (fun w s => Name_calls (n := 1)  s )) ?_; rintro _ _ ⟨rfl, rfl⟩
 refine Z1n ?_; intro bx3
 refine Z3l ?_
 refine Z1 ?_
 refine cd_pull2 ?_
 refine cd_pull3 ?_
 refine Z73 ?_
 refine Z7 ?_
 refine cd_drawe (M := [_, _, _, _]) mx [1, 8, 15, 22, 28, 33] ?_
 refine Z1e ?_
 refine e_q 2 rfl (wn_none rfl) (op_lda (L := rootC _) 1 ag_24 rfl rfl (rootC_take' _) (by simp [rootC_len])) ?_
 refine Z3f ?_
 refine ei_i rfl rfl (wn_none rfl) (os_back (os_pull1 (os_pull2 (os_pull3 (os_call cb_38 rfl (fun w s => BHead_calls _ _ _ _ _ _ _ _ _ _ _ _ _ _ _ _ _ _ _ _  s (Nat.le_of_eq (ownE_len _ _ _)) hq1))))) (fun _ s => ((((((((s.pull 7).pull 7).pull 7).pull 7).pull 4).pull 5).pull 6).pull 7))) rfl ?_; rintro _ _ ⟨rfl, rfl⟩; rw [hh1]; refine ⟨[_, _, _, _], rfl, ?_⟩
 refine e_q 3 rfl (wn_none rfl) (op_eqroot _ _ rB_24 rfl rfl) ?_
 refine Z5m ?_
 refine et_split 17 rfl (fun hb1 => ?_) (fun hb1 => ?_)
 ·have hp1 := hb1
  (try simp only [bn] at hp1)
  refine e_q 5 rfl (wn_some rfl rfl rfl hb1 rfl) (op_move (v := .pointer _) rfl) ?_
  refine e_q 6 rfl (wn_some rfl rfl rfl hb1 rfl) (op_lda (L := rootC _) 0 ag_24 rfl rfl (rootC_take' _) (by simp [rootC_len])) ?_
  refine e_q 7 rfl (wn_some rfl rfl rfl hb1 rfl) (op_lda (L := rootC _) 1 ag_24 rfl rfl (rootC_take' _) (by simp [rootC_len])) ?_
  refine Zn ?_
  refine ei_i rfl rfl (wn_some rfl rfl rfl hb1 rfl) (os_pull1 (os_pull2 (os_pull3 (os_call cb_64 rfl (fun w s => BAdd_calls (slot := 2) _ _ _ _ _ _ _ _ _ _ _ _ _ _ _ _ _ _ _ _ _ _  s rfl hsk (rds_row 3 rfl rfl)))))) rfl ?_; rintro _ _ ⟨rfl, rfl⟩; rw [hh2]; refine ⟨[_, _, _, _], rfl, ?_⟩
  refine e_q 9 rfl (wn_some rfl rfl rfl hb1 rfl) (op_eq rfl rfl) ?_
  refine e_q 10 rfl (wn_none rfl) (op_pick_t (v := .bool _) rfl hb1 rfl) ?_
  refine Zau ?_
  refine et_split 24 rfl (fun hb2 => ?_) (fun hb2 => ?_)
  ·have hp2 := hb2
   (try simp only [bn] at hp2)
   refine e_q 12 rfl (wn_some rfl rfl rfl hb2 rfl) (op_move (v := .pointer _) rfl) ?_
   refine e_q 13 rfl (wn_some rfl rfl rfl hb2 rfl) (op_lda (L := rootC _) 0 ag_24 rfl rfl (rootC_take' _) (by simp [rootC_len])) ?_
   refine e_q 14 rfl (wn_some rfl rfl rfl hb2 rfl) (op_build (L := voteC _) (vs := [(1, .int _ _), (2, .agg (rootC _).toArray)]) bB_84 rfl ⟨⟨rfl, by rw [voteC_len]; rfl⟩, ⟨by simp [Value.cells, rootC_len], by rw [voteC_len]; rfl⟩, trivial⟩ ((voteC_b1 _ _ _).trans ((voteC_b2 _ _ _).trans rfl))) ?_
   refine Z6a ?_
   refine ei_i rfl rfl (wn_some rfl rfl rfl hb2 rfl) (os_pull3 (os_pull3 (os_pull3 (os_pull3 (os_call cb_43 rfl (fun w s => BTake_calls (u := ⟨0, 1, nameR 1⟩) _ _ _ _ _ _ _ _ _ _ _ _ _ _ _ _ _ _ _ _  s rfl hsk (rds_row 3 rfl rfl))))))) rfl ?_; rintro _ _ ⟨rfl, rfl⟩; rw [hh3]; (try dsimp only); refine ⟨[_, _, _, _], rfl, ?_⟩
   refine e_q 16 rfl (wn_some rfl rfl rfl hb2 rfl) (op_eq rfl rfl) ?_
   refine e_q 17 rfl (wn_none rfl) (op_pick_t (v := .bool _) rfl hb2 rfl) ?_
   refine e_q 18 rfl (wn_none rfl) (op_move (v := .bool _) rfl) ?_
   refine et_split 31 rfl (fun hb3 => ?_) (fun hb3 => ?_)
   ·have hp3 := hb3
    (try simp only [bn] at hp3)
    refine e_q 19 rfl (wn_some rfl rfl rfl hb3 rfl) (op_move (v := .pointer _) rfl) ?_
    refine e_q 20 rfl (wn_some rfl rfl rfl hb3 rfl) (op_lda (L := rootC _) 0 ag_24 rfl rfl (rootC_take' _) (by simp [rootC_len])) ?_
    refine e_q 21 rfl (wn_some rfl rfl rfl hb3 rfl) (op_build (L := voteC _) (vs := [(1, .int _ _), (2, .agg (rootC _).toArray)]) bB_84 rfl ⟨⟨rfl, by rw [voteC_len]; rfl⟩, ⟨by simp [Value.cells, rootC_len], by rw [voteC_len]; rfl⟩, trivial⟩ ((voteC_b1 _ _ _).trans ((voteC_b2 _ _ _).trans rfl))) ?_
    refine et_1 (i := 22) (by kernel_rfl) ?_
    refine ei_i rfl rfl (wn_some rfl rfl rfl hb3 rfl) (os_pull3 (os_pull3 (os_pull3 (os_pull3 (os_call cb_43 rfl (fun w s => BTake_calls (u := ⟨0, 2, nameR 1⟩) _ _ _ _ _ _ _ _ _ _ _ _ _ _ _ _ _ _ _ _  s rfl hsk (rds_row 3 rfl rfl))))))) rfl ?_; rintro _ _ ⟨rfl, rfl⟩; rw [hh4]; refine ⟨[_, _, _, _], rfl, ?_⟩
    refine e_q 23 rfl (wn_some rfl rfl rfl hb3 rfl) (op_eq rfl rfl) ?_
    refine e_q 24 rfl (wn_none rfl) (op_pick_t (v := .bool _) rfl hb3 rfl) ?_
    refine e_q 25 rfl (wn_none rfl) (op_move (v := .bool _) rfl) ?_
    refine et_split 38 rfl (fun hb4 => ?_) (fun hb4 => ?_)
    ·have hp4 := hb4
     (try simp only [bn] at hp4)
     refine e_q 26 rfl (wn_some rfl rfl rfl hb4 rfl) (op_move (v := .pointer _) rfl) ?_
     refine e_q 27 rfl (wn_some rfl rfl rfl hb4 rfl) (op_lda (L := rootC _) 1 ag_24 rfl rfl (rootC_take' _) (by simp [rootC_len])) ?_
     refine et_1 (i := 28) (by kernel_rfl) ?_
     refine ei_i rfl rfl (wn_some rfl rfl rfl hb4 rfl) (os_back (os_pull2 (os_pull2 (os_pull2 (os_call cb_37 rfl (fun w s => BWeight_calls _ _ _ _ _ _ _ _ _ _ _ _ _ _ _ _ _ _ _ _ _  s ))))) (fun _ s => s)) rfl ?_; rintro _ _ ⟨rfl, rfl⟩; rw [hh5]; refine ⟨[_, _, _, _], rfl, ?_⟩
     refine e_q 29 rfl (wn_some rfl rfl rfl hb4 rfl) (op_eq rfl rfl) ?_
     refine e_q 30 rfl (wn_none rfl) (op_pick_t (v := .bool _) rfl hb4 rfl) ?_
     refine e_q 31 rfl (wn_none rfl) (op_move (v := .bool _) rfl) ?_
     refine et_split 44 rfl (fun hb5 => ?_) (fun hb5 => ?_)
     ·have hp5 := hb5
      (try simp only [bn] at hp5)
      refine e_q 32 rfl (wn_some rfl rfl rfl hb5 rfl) (op_move (v := .pointer _) rfl) ?_
      refine e_q 34 rfl (wn_some rfl rfl rfl hb5 rfl) (op_lda (L := rootC _) 0 ag_24 rfl rfl (rootC_take' _) (by simp [rootC_len])) ?_
      refine et_1 (i := 33) (by kernel_rfl) ?_
      refine ei_i rfl rfl (wn_some rfl rfl rfl hb5 rfl) (os_back (os_pull2 (os_pull2 (os_pull2 (os_call cb_38 rfl (fun w s => BHead_calls _ _ _ _ _ _ _ _ _ _ _ _ _ _ _ _ _ _ _ _  s (Nat.le_of_eq (ownE_len _ _ _)) hq2))))) (fun _ s => s)) rfl ?_; rintro _ _ ⟨rfl, rfl⟩; rw [hh6]; refine ⟨[_, _, _, _], rfl, ?_⟩
      refine e_q 35 rfl (wn_some rfl rfl rfl hb5 rfl) (op_eqroot _ _ rB_24 rfl rfl) ?_
      refine e_q 36 rfl (wn_none rfl) (op_pick_t (v := .bool _) rfl hb5 rfl) ?_
      refine e_q 37 rfl (wn_none rfl) (op_assign (v := .bool _) rfl) ?_
      refine Z1c ?_
      exact px_ret1 rfl (v := .bool _) rfl (fun _ s => ((((((((s.del 7).del 6).del 5).del 4).del 3).del 2).del 1).del 0)) ⟨congrArg Value.bool (by first | rfl | simp), rfl⟩
     have hp5 := hb5
     (try simp only [bn] at hp5)
     exact absurd hb5 (by simp)
    have hp4 := hb4
    (try simp only [bn] at hp4)
    exact absurd hb4 (by simp)
   have hp3 := hb3
   (try simp only [bn] at hp3)
   exact absurd hb3 (by simp)
  have hp2 := hb2
  (try simp only [bn] at hp2)
  exact absurd hb2 (by simp)
 have hp1 := hb1
 (try simp only [bn] at hp1)
 exact absurd hb1 (by simp)
end Go.SL

set_option linter.unusedVariables false
set_option linter.unusedSimpArgs false
namespace Go.SL
open Go.Proofs

set_option maxRecDepth 100000 in
set_option maxHeartbeats 1000000 in
theorem VotesUnknown_calls {w0 w : World} {l : List HProp} (ao : Option Addr) (c : Nat) (xs : List Val) (n1 n2 n3 n4 n5 n6 n7 n8 n9 n10 n11 : Int) (lo : Option Addr) (lc : Nat) (acts : List VAct) (odd : Root) (hs : Sat w0 w (l)) (hr : Rds w0 l encVal ao xs) (hqv : ∀ y ∈ xs, I64 y.stake ∧ y.key.length ≤ maxLen) (hra : Rds w0 l encVAct lo acts) (hqa : ∀ a ∈ acts, I64 a.kind ∧ I64 a.root ∧ I64 a.parent ∧ I64 a.slot ∧ I64 a.who) :
  Calls Try.prog 11 #[.agg (cfgC ⟨⟨ao, xs.length, c⟩, n1, n2, n3, n4, n5, n6, n7, n8, n9, n10, n11⟩).toArray, .slice lo acts.length lc, .agg (rootC odd).toArray] w (Ret w0 fun v l' => v = .bool true ∧ l' = l) := by
 refine calls_enter Try.func11 rfl rfl rfl hs ?_
 refine Z18 ?_; intro bx1
 refine Z26 ?_; intro bx2
 refine Z3a ?_
 refine oi (os_call cb_33 rfl (fun w s => vAlive_calls  s )) ?_; rintro _ _ ⟨rfl, rfl⟩
 refine Z3e ?_
 refine Z25 ?_
 refine Z0 ?_
 refine Zal ?_
 refine Za ?_
 refine oi (os_call cb_34 rfl (fun w s => vbegun_calls _ _ _ _ _ _ _ _ _ _ _ _ _ _  _ _ acts _ s ((hr.cons _).cons _) hqv (by decide))) ?_; rintro _ l2 (⟨hbad1, rfl, hl2⟩ | ⟨hgc1, hmo1, pb1, pt1, pw1, pv1, pm1, pr1, pq1, rfl, rfl⟩)
 ·rw [hl2]
  refine Z2v ?_
  refine Z3t ?_
  refine Z3t ?_
  refine Z47 ?_
  refine Zd ?_
  refine Zd ?_
  refine Z3a ?_
  refine Z2x ?_
  refine Z23 ?_
  refine Z0 ?_
  refine Zp ?_
  exact px_ret1 rfl (v := .bool _) rfl (fun _ s => ((s.del 1).del 0)) ⟨congrArg Value.bool (by first | rfl | simp), rfl⟩
 generalize hG : (shaM ([116, 111, 108, 108, 101, 114] ++ bytesC ⟨⟨ao, xs.length, c⟩, n1, n2, n3, n4, n5, n6, n7, n8, n9, n10, n11⟩ xs)) = gg
 refine Z2v ?_
 refine Z3t ?_
 refine Z3t ?_
 refine Z47 ?_
 refine Zd ?_
 refine Zd ?_
 refine Z3a ?_
 refine Z2x ?_
 refine Z37 ?_
 refine Zl ?_
 have hbd := goodC_bd hgc1
 (try dsimp only at hbd)
 have hxl := hbd.2.2.1.2
 have hk := hbd.2.2.2
 have hsk := goodC_stk hgc1
 have hO0 : OKB xs.length (newB gg n3 xs.length n1) := OKB.new (by omega) (by omega) hxl (by omega) (by omega)
 refine Z0 ?_
 refine Za ?_
 refine oq (op_len_slice Try.underlying66 rfl) ?_
 refine Z1i ?_
 refine Z11 ?_
 refine Z11 ?_
 refine Z11 ?_
 refine Z11 ?_
 refine Z11 ?_
 refine Z11 ?_
 refine Z11 ?_
 refine cd_loop2 (α := Nat × Nat × Nat × Nat) [(6, 6), (11, 15), (29, 98)] (fun x => [(29, .int .i64 (x.1 : Int))]) (fun x => Blk pb1 (.cells #[.slice ao xs.length c, .int .i64 n1, .int .i64 n2, .int .i64 n3, .int .i64 n4, .int .i64 n5, .int .i64 n6, .int .i64 n7, .int .i64 n8, .int .i64 n9, .int .i64 n10, .int .i64 n11, .pointer (some ⟨x.2.1, 0, none⟩), .pointer (some ⟨x.2.2.1, 0, none⟩), .pointer (some ⟨pv1, 0, none⟩)] 131 (0, 0)) :: TreeObj x.2.1 (runB (newB gg n3 xs.length n1) gg (acts.take x.1)).t :: WObj x.2.2.1 x.2.1 (runB (newB gg n3 xs.length n1) gg (acts.take x.1)).t.nodes (ownE xs (effT (runB (newB gg n3 xs.length n1) gg (acts.take x.1)).tb) (runB (newB gg n3 xs.length n1) gg (acts.take x.1)).t.nodes) :: TabObj pv1 (runB (newB gg n3 xs.length n1) gg (acts.take x.1)).tb :: Blk pm1 (.cells #[.slice ao xs.length c, .int .i64 n1, .int .i64 n2, .int .i64 n3, .int .i64 n4, .int .i64 n5, .int .i64 n6, .int .i64 n7, .int .i64 n8, .int .i64 n9, .int .i64 n10, .int .i64 n11, .pointer (some ⟨x.2.2.2, 0, none⟩), .pointer (some ⟨pq1, 0, none⟩)] 127 (0, 0)) :: RTreeObj x.2.2.2 (runB (newB gg n3 xs.length n1) gg (acts.take x.1)).t :: RTabObj pq1 (runB (newB gg n3 xs.length n1) gg (acts.take x.1)).tb :: _) (fun x => x.1 ≤ acts.length) (fun x => acts.length - x.1) (0, pt1, pw1, pr1) (Nat.zero_le _) ⟨rfl, trivial⟩ (fun _ s => by (try dsimp only); rw [List.take_zero]; exact s) ?_
 rintro ⟨i, qt, qw, qr⟩ hi f; (try dsimp only at hi ⊢)
 have hO := hO0.run (g := gg) (acts.take i)
 have hw := hO.wf
 have htw := hO.tw
 have hln := hO.ln
 have hN1 := hw.le
 have hN2 := hw.m2
 have hN0 := hw.ne
 have hrl := roots_len (runB (newB gg n3 xs.length n1) gg (acts.take i)).t
 refine Zv ?_
 refine cd_cond rfl (fun hb1 => ?_) (fun hb1 => ?_)
 ·have hp1 := hb1
  (try simp only [bn] at hp1)
  have hi1 : i < acts.length := by omega
  have hO2 := hO0.run (g := gg) (acts.take (i + 1))
  have hw2 := hO2.wf
  have htw2 := hO2.tw
  have hln2 := hO2.ln
  have hN12 := hw2.le
  have hN22 := hw2.m2
  have hN02 := hw2.ne
  have hrl2 := roots_len (runB (newB gg n3 xs.length n1) gg (acts.take (i + 1))).t
  refine Z2y ?_
  refine oq (op_index i sB_66 rfl rfl rfl (((((((((hra.cons _).cons _).cons _).cons _).cons _).cons _).cons _).cons _).cons _) rfl (by omega)) ?_
  refine oq (op_ldaw (L := vActC _) ag_72 (((((((((hra.cons _).cons _).cons _).cons _).cons _).cons _).cons _).cons _).cons _) rfl (by omega) rfl (vActC_ta _)) ?_
  refine Zdw ?_; intro bx3
  refine Z1 ?_
  refine Z3o ?_
  refine oq (op_lda (L := vActC _) 0 ag_72 rfl rfl (vActC_ta _) (by simp [vActC_len])) ?_
  refine Z8t ?_
  refine Z8t ?_
  refine Z8t ?_
  refine ol_pull7 ?_
  refine oi (os_call cb_35 rfl (fun w s => vdo_calls _ _ _ _ _ _ _ _ _ _ _ _ _ _ _ _ _ _ _ _ _ _ _ _ _  s hln hsk hxl hk (((hr.cons _).cons _).cons _) (hqa acts[i] (List.getElem_mem _)).2.2.2.1.2 hG)) ?_; rintro _ _ ⟨qt2, qw2, qr2, rfl, rfl⟩; rw [← show (runB (newB gg n3 xs.length n1) gg (acts.take (i + 1))) = stepB gg ⟨(runB (newB gg n3 xs.length n1) gg (acts.take i)).t, (runB (newB gg n3 xs.length n1) gg (acts.take i)).tb⟩ acts[i] from runB_succ hi1]
  refine Z1 ?_
  refine Zc ?_
  refine Zs ?_
  refine Zs ?_
  refine Zs ?_
  refine oi (os_call cb_38 rfl (fun w s => BHead_calls _ _ _ _ _ _ _ _ _ _ _ _ _ _ _ _ _ _ _ _  s (Nat.le_of_eq (ownE_len _ _ _)) (by rw [ownE_len]; exact hN02))) ?_; rintro _ _ ⟨rfl, rfl⟩
  refine Z1k ?_
  refine oi (os_call cb_39 rfl (fun w s => BTable_calls _ _ _ _ _ _ _ _ _ _ _ _ _ _ _ _ _ _  s )) ?_; rintro _ _ ⟨rfl, rfl⟩
  refine Zo ?_
  refine oi (os_call cb_42 rfl (fun w s => Marks_calls _ _  s )) ?_; rintro _ _ ⟨rfl, rfl⟩
  refine Z1n ?_; intro bx4
  refine Z3l ?_
  refine Zb ?_
  refine Z7 ?_
  refine Z7 ?_
  refine cd_drawt (M := []) mx [1, 3] 13 (by kernel_rfl) rfl rfl ?_
  dsimp only [List.take_succ_cons, List.take_zero, List.drop_succ_cons, List.drop_zero]
  refine Ze ?_
  refine rg_i (wn_none rfl) (os_back (os_pull2 (os_call cb_36 rfl (fun w s => BTree_calls _ _ _ _ _ _ _ _ _ _ _ _ _ _ _ _ _ _  s ))) (fun _ s => (((((((((((s.pull 10).pull 10).pull 10).pull 10).pull 10).pull 10).pull 10).pull 10).pull 8).pull 10).pull 10))) rfl rfl ?_; rintro _ _ ⟨rfl, rfl⟩; refine ⟨[], rfl, ?_⟩
  refine rg_q (wn_none rfl) (op_lda (L := rootC _) 9 ag_24 rfl rfl (rootC_take' _) (by simp [rootC_len])) rfl rfl ?_
  refine rg_i (wn_none rfl) (os_back (os_pull3 (os_call cb_31 rfl (fun w s => Place_calls _ _ _  s ))) (fun _ s => (((((((((((s.pull 10).pull 10).pull 10).pull 10).pull 10).pull 10).pull 10).pull 7).pull 10).pull 10).pull 10))) rfl rfl ?_; rintro _ _ ⟨rfl, rfl⟩; refine ⟨[], rfl, ?_⟩
  refine Z5f ?_
  refine Z4t ?_
  refine rg_split 47 rfl (fun hb2 => ?_) (fun hb2 => ?_)
  ·have hp2 := hb2
   (try simp only [bn] at hp2)
   have hunA : ∀ u : Vote, u.target = odd → BookS.take ⟨(runB (newB gg n3 xs.length n1) gg (acts.take (i + 1))).t, (runB (newB gg n3 xs.length n1) gg (acts.take (i + 1))).tb⟩ u = (6, (runB (newB gg n3 xs.length n1) gg (acts.take (i + 1))).tb) := fun u hu => btake_unk (unk_none (by rw [hu]; exact TreeS.place_none (by simpa using hb2)))
   refine rg_q (wn_some rfl rfl rfl hb2 rfl) (op_move (v := .pointer _) rfl) rfl rfl ?_
   refine rg_q (wn_some rfl rfl rfl hb2 rfl) (op_field fld_72_4 rfl) rfl rfl ?_
   refine rg_q (wn_some rfl rfl rfl hb2 rfl) (op_ld 8 sc_3 rfl rfl (vActC_a4 _)) rfl rfl ?_
   refine rg_q (wn_some rfl rfl rfl hb2 rfl) (op_field fld_72_3 rfl) rfl rfl ?_
   refine rg_q (wn_some rfl rfl rfl hb2 rfl) (op_ld 8 sc_3 rfl rfl (vActC_a3 _)) rfl rfl ?_
   refine rg_q (wn_some rfl rfl rfl hb2 rfl) (op_lda (L := rootC _) 9 ag_24 rfl rfl (rootC_take' _) (by simp [rootC_len])) rfl rfl ?_
   refine rg_q (wn_some rfl rfl rfl hb2 rfl) (op_build (L := voteC _) (vs := [(0, .int _ _), (1, .int _ _), (2, .agg (rootC _).toArray)]) bB_84 rfl ⟨⟨rfl, by rw [voteC_len]; rfl⟩, ⟨rfl, by rw [voteC_len]; rfl⟩, ⟨by simp [Value.cells, rootC_len], by rw [voteC_len]; rfl⟩, trivial⟩ ((voteC_b0 _ _ _).trans ((voteC_b1 _ _ _).trans ((voteC_b2 _ _ _).trans rfl)))) rfl rfl ?_
   refine rg_tail0 ?_
   refine Z8 ?_
   refine ol_pull4 ?_
   refine ol_pull4 ?_
   refine ol_pull4 ?_
   refine ol_i (wn_some rfl rfl rfl hb2 rfl) (os_call cb_43 rfl (fun w s => BTake_calls _ _ _ _ _ _ _ _ _ _ _ _ _ _ _ _ _ _ _ _ _  s hln2 hsk (((((((hr.cons _).cons _).cons _).cons _).cons _).cons _).cons _))) rfl ?_; rintro _ _ ⟨rfl, rfl⟩; rw [hunA]; rotate_left; rfl
   (try dsimp only)
   refine ol_q (wn_some rfl rfl rfl hb2 rfl) (op_ne rfl rfl) rfl ?_
   refine Z3c ?_
   refine Z1 ?_
   refine cd_cond rfl (fun hb3 => ?_) (fun hb3 => ?_)
   ·have hp3 := hb3
    (try simp only [bn] at hp3)
    exact absurd hb3 (by decide)
   have hp3 := hb3
   (try simp only [bn] at hp3)
   refine Z9 ?_
   refine Z1q ?_
   refine Z9m ?_
   refine Z1k ?_
   refine Z9m ?_
   refine Z8 ?_
   refine Za2 ?_
   refine Z2p ?_
   refine oi (os_call cb_24 rfl (fun w s => Node_calls _ _ _  s )) ?_; rintro _ _ ⟨rfl, rfl⟩; rw [show (((runB (newB gg n3 xs.length n1) gg (acts.take (i + 1))).t.nodes.length : Nat) : Int) - 1 = ((((runB (newB gg n3 xs.length n1) gg (acts.take (i + 1))).t.nodes.length - 1) : Nat) : Int) by omega, TreeS.node_at]
   refine Z3z ?_
   refine Z3q ?_; intro bx5
   refine Z3d ?_
   refine Zf ?_
   have hsl := hw2.sl _ (List.getElem_mem (show ((runB (newB gg n3 xs.length n1) gg (acts.take (i + 1))).t.nodes.length - 1) < (runB (newB gg n3 xs.length n1) gg (acts.take (i + 1))).t.nodes.length by omega))
   have hsv := slA_get (show ((runB (newB gg n3 xs.length n1) gg (acts.take (i + 1))).t.nodes.length - 1) < (runB (newB gg n3 xs.length n1) gg (acts.take (i + 1))).t.nodes.length by omega)
   rw [← hsv] at hsl
   refine Z0 ?_
   refine Z5 ?_
   refine Z5 ?_
   refine ol_split 69 rfl (fun hb4 => ?_) (fun hb4 => ?_)
   ·have hp4 := hb4
    (try simp only [bn] at hp4)
    refine ol_q (wn_some rfl rfl rfl hb4 rfl) (op_field fld_51_1 rfl) rfl ?_
    refine ol_q (wn_some rfl rfl rfl hb4 rfl) (op_ld 0 sc_3 rfl rfl (show (nodeC _).toArray[32]? = some (.int .i64 (slA (runB (newB gg n3 xs.length n1) gg (acts.take (i + 1))).t.nodes ((runB (newB gg n3 xs.length n1) gg (acts.take (i + 1))).t.nodes.length - 1))) from nodeC_a32 _)) rfl ?_
    refine ol_q (wn_some rfl rfl rfl hb4 rfl) (op_gt rfl rfl) rfl ?_
    refine oq (op_pick_t (v := .bool _) rfl hb4 rfl) ?_
    refine Z5 ?_
    refine ol_split 74 rfl (fun hb5 => ?_) (fun hb5 => ?_)
    ·have hp5 := hb5
     (try simp only [bn] at hp5)
     have hun2 : unkB (runB (newB gg n3 xs.length n1) gg (acts.take (i + 1))).t ⟨(acts[i]'hi1).who, slA (runB (newB gg n3 xs.length n1) gg (acts.take (i + 1))).t.nodes ((runB (newB gg n3 xs.length n1) gg (acts.take (i + 1))).t.nodes.length - 1) - 1, rtA (runB (newB gg n3 xs.length n1) gg (acts.take (i + 1))).t.nodes ((runB (newB gg n3 xs.length n1) gg (acts.take (i + 1))).t.nodes.length - 1)⟩ = true := by rw [unk_some (idx_rt hw2 (show ((runB (newB gg n3 xs.length n1) gg (acts.take (i + 1))).t.nodes.length - 1) < (runB (newB gg n3 xs.length n1) gg (acts.take (i + 1))).t.nodes.length by omega))]; exact decide_eq_true (by show slA _ _ - 1 < slA _ _; omega)
     refine ol_q (wn_some rfl rfl rfl hb5 rfl) (op_move (v := .pointer _) rfl) rfl ?_
     refine ol_q (wn_some rfl rfl rfl hb5 rfl) (op_field fld_72_4 rfl) rfl ?_
     refine ol_q (wn_some rfl rfl rfl hb5 rfl) (op_ld 9 sc_3 rfl rfl (vActC_a4 _)) rfl ?_
     refine ol_q (wn_some rfl rfl rfl hb5 rfl) (op_field fld_51_1 rfl) rfl ?_
     refine ol_q (wn_some rfl rfl rfl hb5 rfl) (op_ld 0 sc_3 rfl rfl (show (nodeC _).toArray[32]? = some (.int .i64 (slA (runB (newB gg n3 xs.length n1) gg (acts.take (i + 1))).t.nodes ((runB (newB gg n3 xs.length n1) gg (acts.take (i + 1))).t.nodes.length - 1))) from nodeC_a32 _)) rfl ?_
     refine ol_q (wn_some rfl rfl rfl hb5 rfl) (op_sub rfl rfl (by omega) (by omega)) rfl ?_
     refine ol_q (wn_some rfl rfl rfl hb5 rfl) (op_field fld_51_0 rfl) rfl ?_
     refine ol_q (wn_some rfl rfl rfl hb5 rfl) (op_lda (L := rootC _) 0 ag_24 rfl rfl (nodeC_af0 _) (by simp [nodeC_len])) rfl ?_
     refine ol_q (wn_some rfl rfl rfl hb5 rfl) (op_build (L := voteC _) (vs := [(0, .int _ _), (1, .int _ _), (2, .agg (rootC _).toArray)]) bB_84 rfl ⟨⟨rfl, by rw [voteC_len]; rfl⟩, ⟨rfl, by rw [voteC_len]; rfl⟩, ⟨by simp [Value.cells, rootC_len], by rw [voteC_len]; rfl⟩, trivial⟩ ((voteC_b0 _ _ _).trans ((voteC_b1 _ _ _).trans ((voteC_b2 _ _ _).trans rfl)))) rfl ?_
     refine ol_pull4 ?_
     refine ol_pull4 ?_
     refine Zo ?_
     refine ol_pull4 ?_
     refine ol_i (wn_some rfl rfl rfl hb5 rfl) (os_call cb_43 rfl (fun w s => BTake_calls (u := ⟨(acts[i]'hi1).who, slA (runB (newB gg n3 xs.length n1) gg (acts.take (i + 1))).t.nodes ((runB (newB gg n3 xs.length n1) gg (acts.take (i + 1))).t.nodes.length - 1) - 1, rtA (runB (newB gg n3 xs.length n1) gg (acts.take (i + 1))).t.nodes ((runB (newB gg n3 xs.length n1) gg (acts.take (i + 1))).t.nodes.length - 1)⟩) _ _ _ _ _ _ _ _ _ _ _ _ _ _ _ _ _ _ _ _  s hln2 hsk ((((((((hr.cons _).cons _).cons _).cons _).cons _).cons _).cons _).cons _))) rfl ?_; rintro _ _ ⟨rfl, rfl⟩; rw [btake_unk hun2]; (try dsimp only)
     refine ol_q (wn_some rfl rfl rfl hb5 rfl) (op_ne rfl rfl) rfl ?_
     refine oq (op_pick_t (v := .bool _) rfl hb5 rfl) ?_
     refine Z1 ?_
     refine cd_cond rfl (fun hb6 => ?_) (fun hb6 => ?_)
     ·have hp6 := hb6
      (try simp only [bn] at hp6)
      exact absurd hb6 (by decide)
     have hp6 := hb6
     (try simp only [bn] at hp6)
     refine Z8s ?_
     refine Z1e ?_
     refine Zav ?_
     refine Z3f ?_
     refine Zde ?_
     refine Z8q ?_
     refine Z5m ?_
     refine et_split 91 rfl (fun hb7 => ?_) (fun hb7 => ?_)
     ·have hp7 := hb7
      (try simp only [bn] at hp7)
      exact absurd hb7 (by simp)
     have hp7 := hb7
     (try simp only [bn] at hp7)
     refine e_q 5 rfl (wn_some rfl rfl rfl hb7 rfl) (op_move (v := .pointer _) rfl) ?_
     refine e_q 8 rfl (wn_some rfl rfl rfl hb7 rfl) (op_move (v := .int _ _) rfl) ?_
     refine Zz ?_
     refine ei_i rfl rfl (wn_some rfl rfl rfl hb7 rfl) (os_call cb_39 rfl (fun w s => BTable_calls _ _ _ _ _ _ _ _ _ _ _ _ _ _ _ _ _ _  s )) rfl ?_; rintro _ _ ⟨rfl, rfl⟩; refine ⟨[], rfl, ?_⟩
     refine Zm ?_
     refine ei_i rfl rfl (wn_some rfl rfl rfl hb7 rfl) (os_back (os_pull3 (os_call cb_42 rfl (fun w s => Marks_calls _ _  s ))) (fun _ s => (s.push 3))) rfl ?_; rintro _ _ ⟨rfl, rfl⟩; refine ⟨[], rfl, ?_⟩
     refine e_q 9 rfl (wn_some rfl rfl rfl hb7 rfl) (op_ne rfl rfl) ?_
     refine e_q 10 rfl (wn_none rfl) (op_pick_f (v := .bool _) rfl hb7 rfl) ?_
     refine Zq ?_
     refine cd_cond rfl (fun hb8 => ?_) (fun hb8 => ?_)
     ·have hp8 := hb8
      (try simp only [bn] at hp8)
      exact absurd hb8 (by simp)
     have hp8 := hb8
     (try simp only [bn] at hp8)
     refine Z2z ?_
     refine Zdf ?_
     exact Z2
    have hp5 := hb5
    (try simp only [bn] at hp5)
    refine Z35 ?_
    refine Z35 ?_
    refine Z35 ?_
    refine Z35 ?_
    refine Z35 ?_
    refine Z35 ?_
    refine Z35 ?_
    refine Z35 ?_
    refine Z35 ?_
    refine Z35 ?_
    refine Z35 ?_
    refine oq (op_pick_f (v := .bool _) rfl hb5 rfl) ?_
    refine Z37 ?_
    refine Z8s ?_
    refine Z1e ?_
    refine Zav ?_
    refine Z3f ?_
    refine Zdg ?_
    refine Z8q ?_
    refine Z5m ?_
    refine et_split 91 rfl (fun hb9 => ?_) (fun hb9 => ?_)
    ·have hp9 := hb9
     (try simp only [bn] at hp9)
     exact absurd hb9 (by simp)
    have hp9 := hb9
    (try simp only [bn] at hp9)
    refine e_q 5 rfl (wn_some rfl rfl rfl hb9 rfl) (op_move (v := .pointer _) rfl) ?_
    refine e_q 8 rfl (wn_some rfl rfl rfl hb9 rfl) (op_move (v := .int _ _) rfl) ?_
    refine Zz ?_
    refine ei_i rfl rfl (wn_some rfl rfl rfl hb9 rfl) (os_back (os_pull2 (os_call cb_39 rfl (fun w s => BTable_calls _ _ _ _ _ _ _ _ _ _ _ _ _ _ _ _ _ _  s ))) (fun _ s => (s.push 2))) rfl ?_; rintro _ _ ⟨rfl, rfl⟩; refine ⟨[], rfl, ?_⟩
    refine Zm ?_
    refine ei_i rfl rfl (wn_some rfl rfl rfl hb9 rfl) (os_back (os_pull4 (os_call cb_42 rfl (fun w s => Marks_calls _ _  s ))) (fun _ s => (s.push 4))) rfl ?_; rintro _ _ ⟨rfl, rfl⟩; refine ⟨[], rfl, ?_⟩
    refine e_q 9 rfl (wn_some rfl rfl rfl hb9 rfl) (op_ne rfl rfl) ?_
    refine e_q 10 rfl (wn_none rfl) (op_pick_f (v := .bool _) rfl hb9 rfl) ?_
    refine Zq ?_
    refine cd_cond rfl (fun hb10 => ?_) (fun hb10 => ?_)
    ·have hp10 := hb10
     (try simp only [bn] at hp10)
     exact absurd hb10 (by simp)
    have hp10 := hb10
    (try simp only [bn] at hp10)
    refine Z2z ?_
    refine px_pull11 ?_
    refine px_pull11 ?_
    refine px_pull10 ?_
    refine px_pull10 ?_
    refine px_pull10 ?_
    refine px_pull9 ?_
    refine px_pull9 ?_
    refine px_pull8 ?_
    refine px_pull9 ?_
    refine Zaw ?_
    exact Z2
   have hp4 := hb4
   (try simp only [bn] at hp4)
   refine ol_skip (wn_some rfl rfl rfl hb4 rfl) rfl ?_
   refine ol_skip (wn_some rfl rfl rfl hb4 rfl) rfl ?_
   refine ol_skip (wn_some rfl rfl rfl hb4 rfl) rfl ?_
   refine oq (op_pick_f (v := .bool _) rfl hb4 rfl) ?_
   refine Z60 ?_
   refine Z4j ?_
   refine Z4j ?_
   refine Z4j ?_
   refine Z4j ?_
   refine Z74 ?_
   refine Z76 ?_
   refine Z37 ?_
   refine Z8s ?_
   refine Z1e ?_
   refine Zav ?_
   refine Z3f ?_
   refine Zdg ?_
   refine Z8q ?_
   refine Z5m ?_
   refine et_split 91 rfl (fun hb11 => ?_) (fun hb11 => ?_)
   ·have hp11 := hb11
    (try simp only [bn] at hp11)
    exact absurd hb11 (by simp)
   have hp11 := hb11
   (try simp only [bn] at hp11)
   refine e_q 5 rfl (wn_some rfl rfl rfl hb11 rfl) (op_move (v := .pointer _) rfl) ?_
   refine e_q 8 rfl (wn_some rfl rfl rfl hb11 rfl) (op_move (v := .int _ _) rfl) ?_
   refine Zz ?_
   refine ei_i rfl rfl (wn_some rfl rfl rfl hb11 rfl) (os_back (os_pull2 (os_call cb_39 rfl (fun w s => BTable_calls _ _ _ _ _ _ _ _ _ _ _ _ _ _ _ _ _ _  s ))) (fun _ s => (s.push 2))) rfl ?_; rintro _ _ ⟨rfl, rfl⟩; refine ⟨[], rfl, ?_⟩
   refine Zm ?_
   refine ei_i rfl rfl (wn_some rfl rfl rfl hb11 rfl) (os_back (os_pull4 (os_call cb_42 rfl (fun w s => Marks_calls _ _  s ))) (fun _ s => (s.push 4))) rfl ?_; rintro _ _ ⟨rfl, rfl⟩; refine ⟨[], rfl, ?_⟩
   refine e_q 9 rfl (wn_some rfl rfl rfl hb11 rfl) (op_ne rfl rfl) ?_
   refine e_q 10 rfl (wn_none rfl) (op_pick_f (v := .bool _) rfl hb11 rfl) ?_
   refine Zq ?_
   refine cd_cond rfl (fun hb12 => ?_) (fun hb12 => ?_)
   ·have hp12 := hb12
    (try simp only [bn] at hp12)
    exact absurd hb12 (by simp)
   have hp12 := hb12
   (try simp only [bn] at hp12)
   refine Z2z ?_
   refine px_pull11 ?_
   refine px_pull11 ?_
   refine px_pull10 ?_
   refine px_pull10 ?_
   refine px_pull10 ?_
   refine px_pull9 ?_
   refine px_pull9 ?_
   refine px_pull8 ?_
   refine px_pull9 ?_
   refine Zaw ?_
   exact Z2
  have hp2 := hb2
  (try simp only [bn] at hp2)
  refine Z2l ?_
  refine Z2l ?_
  refine Z2l ?_
  refine Z90 ?_
  refine rg_tail0 ?_
  refine Z1m ?_
  refine Z32 ?_
  refine Z25 ?_
  refine Z1q ?_
  refine Zs ?_
  refine Z9m ?_
  refine Z1k ?_
  refine Z9m ?_
  refine Zo ?_
  refine Za2 ?_
  refine Z2p ?_
  refine oi (os_call cb_24 rfl (fun w s => Node_calls _ _ _  s )) ?_; rintro _ _ ⟨rfl, rfl⟩; rw [show (((runB (newB gg n3 xs.length n1) gg (acts.take (i + 1))).t.nodes.length : Nat) : Int) - 1 = ((((runB (newB gg n3 xs.length n1) gg (acts.take (i + 1))).t.nodes.length - 1) : Nat) : Int) by omega, TreeS.node_at]
  refine Z3z ?_
  refine Z3q ?_; intro bx6
  refine Z3d ?_
  refine Zf ?_
  have hsl := hw2.sl _ (List.getElem_mem (show ((runB (newB gg n3 xs.length n1) gg (acts.take (i + 1))).t.nodes.length - 1) < (runB (newB gg n3 xs.length n1) gg (acts.take (i + 1))).t.nodes.length by omega))
  have hsv := slA_get (show ((runB (newB gg n3 xs.length n1) gg (acts.take (i + 1))).t.nodes.length - 1) < (runB (newB gg n3 xs.length n1) gg (acts.take (i + 1))).t.nodes.length by omega)
  rw [← hsv] at hsl
  refine Z0 ?_
  refine Z5 ?_
  refine Z5 ?_
  refine ol_split 69 rfl (fun hb13 => ?_) (fun hb13 => ?_)
  ·have hp13 := hb13
   (try simp only [bn] at hp13)
   refine ol_q (wn_some rfl rfl rfl hb13 rfl) (op_field fld_51_1 rfl) rfl ?_
   refine ol_q (wn_some rfl rfl rfl hb13 rfl) (op_ld 0 sc_3 rfl rfl (show (nodeC _).toArray[32]? = some (.int .i64 (slA (runB (newB gg n3 xs.length n1) gg (acts.take (i + 1))).t.nodes ((runB (newB gg n3 xs.length n1) gg (acts.take (i + 1))).t.nodes.length - 1))) from nodeC_a32 _)) rfl ?_
   refine ol_q (wn_some rfl rfl rfl hb13 rfl) (op_gt rfl rfl) rfl ?_
   refine oq (op_pick_t (v := .bool _) rfl hb13 rfl) ?_
   refine Z5 ?_
   refine ol_split 74 rfl (fun hb14 => ?_) (fun hb14 => ?_)
   ·have hp14 := hb14
    (try simp only [bn] at hp14)
    have hun2 : unkB (runB (newB gg n3 xs.length n1) gg (acts.take (i + 1))).t ⟨(acts[i]'hi1).who, slA (runB (newB gg n3 xs.length n1) gg (acts.take (i + 1))).t.nodes ((runB (newB gg n3 xs.length n1) gg (acts.take (i + 1))).t.nodes.length - 1) - 1, rtA (runB (newB gg n3 xs.length n1) gg (acts.take (i + 1))).t.nodes ((runB (newB gg n3 xs.length n1) gg (acts.take (i + 1))).t.nodes.length - 1)⟩ = true := by rw [unk_some (idx_rt hw2 (show ((runB (newB gg n3 xs.length n1) gg (acts.take (i + 1))).t.nodes.length - 1) < (runB (newB gg n3 xs.length n1) gg (acts.take (i + 1))).t.nodes.length by omega))]; exact decide_eq_true (by show slA _ _ - 1 < slA _ _; omega)
    refine ol_q (wn_some rfl rfl rfl hb14 rfl) (op_move (v := .pointer _) rfl) rfl ?_
    refine ol_q (wn_some rfl rfl rfl hb14 rfl) (op_field fld_72_4 rfl) rfl ?_
    refine ol_q (wn_some rfl rfl rfl hb14 rfl) (op_ld 9 sc_3 rfl rfl (vActC_a4 _)) rfl ?_
    refine ol_q (wn_some rfl rfl rfl hb14 rfl) (op_field fld_51_1 rfl) rfl ?_
    refine ol_q (wn_some rfl rfl rfl hb14 rfl) (op_ld 0 sc_3 rfl rfl (show (nodeC _).toArray[32]? = some (.int .i64 (slA (runB (newB gg n3 xs.length n1) gg (acts.take (i + 1))).t.nodes ((runB (newB gg n3 xs.length n1) gg (acts.take (i + 1))).t.nodes.length - 1))) from nodeC_a32 _)) rfl ?_
    refine ol_q (wn_some rfl rfl rfl hb14 rfl) (op_sub rfl rfl (by omega) (by omega)) rfl ?_
    refine ol_q (wn_some rfl rfl rfl hb14 rfl) (op_field fld_51_0 rfl) rfl ?_
    refine ol_q (wn_some rfl rfl rfl hb14 rfl) (op_lda (L := rootC _) 0 ag_24 rfl rfl (nodeC_af0 _) (by simp [nodeC_len])) rfl ?_
    refine ol_q (wn_some rfl rfl rfl hb14 rfl) (op_build (L := voteC _) (vs := [(0, .int _ _), (1, .int _ _), (2, .agg (rootC _).toArray)]) bB_84 rfl ⟨⟨rfl, by rw [voteC_len]; rfl⟩, ⟨rfl, by rw [voteC_len]; rfl⟩, ⟨by simp [Value.cells, rootC_len], by rw [voteC_len]; rfl⟩, trivial⟩ ((voteC_b0 _ _ _).trans ((voteC_b1 _ _ _).trans ((voteC_b2 _ _ _).trans rfl)))) rfl ?_
    refine ol_pull4 ?_
    refine ol_pull5 ?_
    refine Zo ?_
    refine ol_pull4 ?_
    refine ol_i (wn_some rfl rfl rfl hb14 rfl) (os_call cb_43 rfl (fun w s => BTake_calls (u := ⟨(acts[i]'hi1).who, slA (runB (newB gg n3 xs.length n1) gg (acts.take (i + 1))).t.nodes ((runB (newB gg n3 xs.length n1) gg (acts.take (i + 1))).t.nodes.length - 1) - 1, rtA (runB (newB gg n3 xs.length n1) gg (acts.take (i + 1))).t.nodes ((runB (newB gg n3 xs.length n1) gg (acts.take (i + 1))).t.nodes.length - 1)⟩) _ _ _ _ _ _ _ _ _ _ _ _ _ _ _ _ _ _ _ _  s hln2 hsk ((((((((hr.cons _).cons _).cons _).cons _).cons _).cons _).cons _).cons _))) rfl ?_; rintro _ _ ⟨rfl, rfl⟩; rw [btake_unk hun2]; (try dsimp only)
    refine ol_q (wn_some rfl rfl rfl hb14 rfl) (op_ne rfl rfl) rfl ?_
    refine oq (op_pick_t (v := .bool _) rfl hb14 rfl) ?_
    refine Z1 ?_
    refine cd_cond rfl (fun hb15 => ?_) (fun hb15 => ?_)
    ·have hp15 := hb15
     (try simp only [bn] at hp15)
     exact absurd hb15 (by decide)
    have hp15 := hb15
    (try simp only [bn] at hp15)
    refine Z8s ?_
    refine Z1e ?_
    refine Zav ?_
    refine Z3f ?_
    refine Zde ?_
    refine Z8q ?_
    refine Z5m ?_
    refine et_split 91 rfl (fun hb16 => ?_) (fun hb16 => ?_)
    ·have hp16 := hb16
     (try simp only [bn] at hp16)
     exact absurd hb16 (by simp)
    have hp16 := hb16
    (try simp only [bn] at hp16)
    refine e_q 5 rfl (wn_some rfl rfl rfl hb16 rfl) (op_move (v := .pointer _) rfl) ?_
    refine e_q 8 rfl (wn_some rfl rfl rfl hb16 rfl) (op_move (v := .int _ _) rfl) ?_
    refine Zz ?_
    refine ei_i rfl rfl (wn_some rfl rfl rfl hb16 rfl) (os_call cb_39 rfl (fun w s => BTable_calls _ _ _ _ _ _ _ _ _ _ _ _ _ _ _ _ _ _  s )) rfl ?_; rintro _ _ ⟨rfl, rfl⟩; refine ⟨[], rfl, ?_⟩
    refine Zm ?_
    refine ei_i rfl rfl (wn_some rfl rfl rfl hb16 rfl) (os_back (os_pull3 (os_call cb_42 rfl (fun w s => Marks_calls _ _  s ))) (fun _ s => (s.push 3))) rfl ?_; rintro _ _ ⟨rfl, rfl⟩; refine ⟨[], rfl, ?_⟩
    refine e_q 9 rfl (wn_some rfl rfl rfl hb16 rfl) (op_ne rfl rfl) ?_
    refine e_q 10 rfl (wn_none rfl) (op_pick_f (v := .bool _) rfl hb16 rfl) ?_
    refine Zq ?_
    refine cd_cond rfl (fun hb17 => ?_) (fun hb17 => ?_)
    ·have hp17 := hb17
     (try simp only [bn] at hp17)
     exact absurd hb17 (by simp)
    have hp17 := hb17
    (try simp only [bn] at hp17)
    refine Z2z ?_
    refine Zdf ?_
    exact Z2
   have hp14 := hb14
   (try simp only [bn] at hp14)
   refine Z4y ?_
   refine Z4y ?_
   refine Z4y ?_
   refine Z4y ?_
   refine Z4y ?_
   refine Z4y ?_
   refine Z4y ?_
   refine Z4y ?_
   refine Z4y ?_
   refine Z4y ?_
   refine Z4y ?_
   refine oq (op_pick_f (v := .bool _) rfl hb14 rfl) ?_
   refine Z37 ?_
   refine Z8s ?_
   refine Z1e ?_
   refine e_q 2 rfl (wn_none rfl) (op_lda (L := rootC _) 3 ag_24 rfl rfl (rootC_take' _) (by simp [rootC_len])) ?_
   refine Z3f ?_
   refine Zdh ?_
   refine Z8q ?_
   refine Z5m ?_
   refine et_split 91 rfl (fun hb18 => ?_) (fun hb18 => ?_)
   ·have hp18 := hb18
    (try simp only [bn] at hp18)
    exact absurd hb18 (by simp)
   have hp18 := hb18
   (try simp only [bn] at hp18)
   refine e_q 5 rfl (wn_some rfl rfl rfl hb18 rfl) (op_move (v := .pointer _) rfl) ?_
   refine e_q 8 rfl (wn_some rfl rfl rfl hb18 rfl) (op_move (v := .int _ _) rfl) ?_
   refine Zz ?_
   refine ei_i rfl rfl (wn_some rfl rfl rfl hb18 rfl) (os_back (os_pull2 (os_call cb_39 rfl (fun w s => BTable_calls _ _ _ _ _ _ _ _ _ _ _ _ _ _ _ _ _ _  s ))) (fun _ s => (s.push 2))) rfl ?_; rintro _ _ ⟨rfl, rfl⟩; refine ⟨[], rfl, ?_⟩
   refine Zm ?_
   refine ei_i rfl rfl (wn_some rfl rfl rfl hb18 rfl) (os_back (os_pull4 (os_call cb_42 rfl (fun w s => Marks_calls _ _  s ))) (fun _ s => (s.push 4))) rfl ?_; rintro _ _ ⟨rfl, rfl⟩; refine ⟨[], rfl, ?_⟩
   refine e_q 9 rfl (wn_some rfl rfl rfl hb18 rfl) (op_ne rfl rfl) ?_
   refine e_q 10 rfl (wn_none rfl) (op_pick_f (v := .bool _) rfl hb18 rfl) ?_
   refine Zq ?_
   refine cd_cond rfl (fun hb19 => ?_) (fun hb19 => ?_)
   ·have hp19 := hb19
    (try simp only [bn] at hp19)
    exact absurd hb19 (by simp)
   have hp19 := hb19
   (try simp only [bn] at hp19)
   refine Z2z ?_
   refine px_pull11 ?_
   refine px_pull11 ?_
   refine px_pull10 ?_
   refine px_pull10 ?_
   refine px_pull10 ?_
   refine px_pull9 ?_
   refine px_pull10 ?_
   refine px_pull8 ?_
   refine px_pull9 ?_
   refine Zaw ?_
   exact Z2
  have hp13 := hb13
  (try simp only [bn] at hp13)
  refine ol_skip (wn_some rfl rfl rfl hb13 rfl) rfl ?_
  refine ol_skip (wn_some rfl rfl rfl hb13 rfl) rfl ?_
  refine ol_skip (wn_some rfl rfl rfl hb13 rfl) rfl ?_
  refine oq (op_pick_f (v := .bool _) rfl hb13 rfl) ?_
  refine Z60 ?_
  refine Z4j ?_
  refine Z4j ?_
  refine Z4j ?_
  refine Z4j ?_
  refine Z74 ?_
  refine Z76 ?_
  refine Z37 ?_
  refine Z8s ?_
  refine Z1e ?_
  refine e_q 2 rfl (wn_none rfl) (op_lda (L := rootC _) 3 ag_24 rfl rfl (rootC_take' _) (by simp [rootC_len])) ?_
  refine Z3f ?_
  refine Zdh ?_
  refine Z8q ?_
  refine Z5m ?_
  refine et_split 91 rfl (fun hb20 => ?_) (fun hb20 => ?_)
  ·have hp20 := hb20
   (try simp only [bn] at hp20)
   exact absurd hb20 (by simp)
  have hp20 := hb20
  (try simp only [bn] at hp20)
  refine e_q 5 rfl (wn_some rfl rfl rfl hb20 rfl) (op_move (v := .pointer _) rfl) ?_
  refine e_q 8 rfl (wn_some rfl rfl rfl hb20 rfl) (op_move (v := .int _ _) rfl) ?_
  refine Zz ?_
  refine ei_i rfl rfl (wn_some rfl rfl rfl hb20 rfl) (os_back (os_pull2 (os_call cb_39 rfl (fun w s => BTable_calls _ _ _ _ _ _ _ _ _ _ _ _ _ _ _ _ _ _  s ))) (fun _ s => (s.push 2))) rfl ?_; rintro _ _ ⟨rfl, rfl⟩; refine ⟨[], rfl, ?_⟩
  refine Zm ?_
  refine ei_i rfl rfl (wn_some rfl rfl rfl hb20 rfl) (os_back (os_pull4 (os_call cb_42 rfl (fun w s => Marks_calls _ _  s ))) (fun _ s => (s.push 4))) rfl ?_; rintro _ _ ⟨rfl, rfl⟩; refine ⟨[], rfl, ?_⟩
  refine e_q 9 rfl (wn_some rfl rfl rfl hb20 rfl) (op_ne rfl rfl) ?_
  refine e_q 10 rfl (wn_none rfl) (op_pick_f (v := .bool _) rfl hb20 rfl) ?_
  refine Zq ?_
  refine cd_cond rfl (fun hb21 => ?_) (fun hb21 => ?_)
  ·have hp21 := hb21
   (try simp only [bn] at hp21)
   exact absurd hb21 (by simp)
  have hp21 := hb21
  (try simp only [bn] at hp21)
  refine Z2z ?_
  refine px_pull11 ?_
  refine px_pull11 ?_
  refine px_pull10 ?_
  refine px_pull10 ?_
  refine px_pull10 ?_
  refine px_pull9 ?_
  refine px_pull10 ?_
  refine px_pull8 ?_
  refine px_pull9 ?_
  refine Zaw ?_
  exact Z2
 have hp1 := hb1
 (try simp only [bn] at hp1)
 refine Z21 ?_
 refine Zh ?_
 exact px_ret1 rfl (v := .bool _) rfl (fun _ s => (((((((((s.del 8).del 7).del 6).del 5).del 4).del 3).del 2).del 1).del 0)) ⟨congrArg Value.bool (by first | rfl | simp), rfl⟩

set_option maxRecDepth 100000 in
set_option maxHeartbeats 1000000 in
theorem VotesKeep_calls {w0 w : World} {l : List HProp} (ao : Option Addr) (c : Nat) (xs : List Val) (n1 n2 n3 n4 n5 n6 n7 n8 n9 n10 n11 : Int) (lo : Option Addr) (lc : Nat) (acts : List VAct) (at_ : Int) (hs : Sat w0 w (l)) (hr : Rds w0 l encVal ao xs) (hqv : ∀ y ∈ xs, I64 y.stake ∧ y.key.length ≤ maxLen) (hra : Rds w0 l encVAct lo acts) (hqa : ∀ a ∈ acts, I64 a.kind ∧ I64 a.root ∧ I64 a.parent ∧ I64 a.slot ∧ I64 a.who) :
  Calls Try.prog 12 #[.agg (cfgC ⟨⟨ao, xs.length, c⟩, n1, n2, n3, n4, n5, n6, n7, n8, n9, n10, n11⟩).toArray, .slice lo acts.length lc, .int .i64 at_] w (Ret w0 fun v l' => v = .bool true ∧ l' = l) := by
 refine calls_enter Try.func12 rfl rfl rfl hs ?_
 refine Z18 ?_; intro bx1
 refine Z3a ?_
 refine oi (os_call cb_33 rfl (fun w s => vAlive_calls  s )) ?_; rintro _ _ ⟨rfl, rfl⟩
 refine Z3e ?_
 refine Z25 ?_
 refine Z0 ?_
 refine Z4f ?_
 refine Za ?_
 refine oi (os_call cb_34 rfl (fun w s => vbegun_calls _ _ _ _ _ _ _ _ _ _ _ _ _ _  _ _ acts _ s (hr.cons _) hqv (by decide))) ?_; rintro _ l2 (⟨hbad1, rfl, hl2⟩ | ⟨hgc1, hmo1, pb1, pt1, pw1, pv1, pm1, pr1, pq1, rfl, rfl⟩)
 ·rw [hl2]
  refine Z2v ?_
  refine Z3t ?_
  refine Z3t ?_
  refine Z47 ?_
  refine Zd ?_
  refine Zd ?_
  refine Z3a ?_
  refine Z2x ?_
  refine Z23 ?_
  refine Z0 ?_
  refine Zp ?_
  exact px_ret1 rfl (v := .bool _) rfl (fun _ s => (s.del 0)) ⟨congrArg Value.bool (by first | rfl | simp), rfl⟩
 generalize hG : (shaM ([116, 111, 108, 108, 101, 114] ++ bytesC ⟨⟨ao, xs.length, c⟩, n1, n2, n3, n4, n5, n6, n7, n8, n9, n10, n11⟩ xs)) = gg
 refine Z2v ?_
 refine Z3t ?_
 refine Z3t ?_
 refine Z47 ?_
 refine Zd ?_
 refine Zd ?_
 refine Z3a ?_
 refine Z2x ?_
 refine Z37 ?_
 refine Zl ?_
 have hbd := goodC_bd hgc1
 (try dsimp only at hbd)
 have hxl := hbd.2.2.1.2
 have hk := hbd.2.2.2
 have hsk := goodC_stk hgc1
 have hO0 : OKB xs.length (newB gg n3 xs.length n1) := OKB.new (by omega) (by omega) hxl (by omega) (by omega)
 refine Z0 ?_
 refine Za ?_
 refine oq (op_len_slice Try.underlying66 rfl) ?_
 refine Z1i ?_
 refine Z11 ?_
 refine Z11 ?_
 refine Z11 ?_
 refine Z11 ?_
 refine Z11 ?_
 refine Z11 ?_
 refine Z11 ?_
 refine cd_loop2 (α := Nat × Nat × Nat × Nat) [(11, 11), (30, 38)] (fun x => [(30, .int .i64 (x.1 : Int))]) (fun x => Blk pb1 (.cells #[.slice ao xs.length c, .int .i64 n1, .int .i64 n2, .int .i64 n3, .int .i64 n4, .int .i64 n5, .int .i64 n6, .int .i64 n7, .int .i64 n8, .int .i64 n9, .int .i64 n10, .int .i64 n11, .pointer (some ⟨x.2.1, 0, none⟩), .pointer (some ⟨x.2.2.1, 0, none⟩), .pointer (some ⟨pv1, 0, none⟩)] 131 (0, 0)) :: TreeObj x.2.1 (runB (newB gg n3 xs.length n1) gg (acts.take x.1)).t :: WObj x.2.2.1 x.2.1 (runB (newB gg n3 xs.length n1) gg (acts.take x.1)).t.nodes (ownE xs (effT (runB (newB gg n3 xs.length n1) gg (acts.take x.1)).tb) (runB (newB gg n3 xs.length n1) gg (acts.take x.1)).t.nodes) :: TabObj pv1 (runB (newB gg n3 xs.length n1) gg (acts.take x.1)).tb :: Blk pm1 (.cells #[.slice ao xs.length c, .int .i64 n1, .int .i64 n2, .int .i64 n3, .int .i64 n4, .int .i64 n5, .int .i64 n6, .int .i64 n7, .int .i64 n8, .int .i64 n9, .int .i64 n10, .int .i64 n11, .pointer (some ⟨x.2.2.2, 0, none⟩), .pointer (some ⟨pq1, 0, none⟩)] 127 (0, 0)) :: RTreeObj x.2.2.2 (runB (newB gg n3 xs.length n1) gg (acts.take x.1)).t :: RTabObj pq1 (runB (newB gg n3 xs.length n1) gg (acts.take x.1)).tb :: _) (fun x => x.1 ≤ acts.length) (fun x => acts.length - x.1) (0, pt1, pw1, pr1) (Nat.zero_le _) ⟨rfl, trivial⟩ (fun _ s => by (try dsimp only); rw [List.take_zero]; exact s) ?_
 rintro ⟨i, qt, qw, qr⟩ hi f; (try dsimp only at hi ⊢)
 have hO := hO0.run (g := gg) (acts.take i)
 have hw := hO.wf
 have htw := hO.tw
 have hln := hO.ln
 have hN1 := hw.le
 have hN2 := hw.m2
 have hN0 := hw.ne
 have hrl := roots_len (runB (newB gg n3 xs.length n1) gg (acts.take i)).t
 refine Zv ?_
 refine cd_cond rfl (fun hb1 => ?_) (fun hb1 => ?_)
 ·have hp1 := hb1
  (try simp only [bn] at hp1)
  have hi1 : i < acts.length := by omega
  have hO2 := hO0.run (g := gg) (acts.take (i + 1))
  have hw2 := hO2.wf
  have htw2 := hO2.tw
  have hln2 := hO2.ln
  have hN12 := hw2.le
  have hN22 := hw2.m2
  have hN02 := hw2.ne
  have hrl2 := roots_len (runB (newB gg n3 xs.length n1) gg (acts.take (i + 1))).t
  refine Z2y ?_
  refine oq (op_index i sB_66 rfl rfl rfl ((((((((hra.cons _).cons _).cons _).cons _).cons _).cons _).cons _).cons _) rfl (by omega)) ?_
  refine oq (op_ldaw (L := vActC _) ag_72 ((((((((hra.cons _).cons _).cons _).cons _).cons _).cons _).cons _).cons _) rfl (by omega) rfl (vActC_ta _)) ?_
  refine Zdw ?_; intro bx2
  refine Z1 ?_
  refine Z61 ?_
  refine Z1k ?_
  refine oq (op_lda (L := vActC _) 0 ag_72 rfl rfl (vActC_ta _) (by simp [vActC_len])) ?_
  refine Z8t ?_
  refine Z8t ?_
  refine Z8t ?_
  refine ol_pull7 ?_
  refine oi (os_call cb_35 rfl (fun w s => vdo_calls _ _ _ _ _ _ _ _ _ _ _ _ _ _ _ _ _ _ _ _ _ _ _ _ _  s hln hsk hxl hk ((hr.cons _).cons _) (hqa acts[i] (List.getElem_mem _)).2.2.2.1.2 hG)) ?_; rintro _ _ ⟨qt2, qw2, qr2, rfl, rfl⟩; rw [← show (runB (newB gg n3 xs.length n1) gg (acts.take (i + 1))) = stepB gg ⟨(runB (newB gg n3 xs.length n1) gg (acts.take i)).t, (runB (newB gg n3 xs.length n1) gg (acts.take i)).tb⟩ acts[i] from runB_succ hi1]
  refine Z30 ?_
  refine px_loop2 (i + 1, qt2, qw2, qr2) (by dsimp only; omega) (by (try dsimp only); omega) ⟨congrArg (Value.int .i64) (by simp), trivial⟩ ?_ (fun _ s => (s.del 7))
  exact Z2
 have hp1 := hb1
 (try simp only [bn] at hp1)
 have hie : i = acts.length := by omega
 rw [hie, List.take_length]
 have hO9 := hO0.run (g := gg) acts
 have hw9 := hO9.wf
 have htw9 := hO9.tw
 have hln9 := hO9.ln
 have hN19 := hw9.le
 have hN29 := hw9.m2
 have hN09 := hw9.ne
 have hrl9 := roots_len (runB (newB gg n3 xs.length n1) gg acts).t
 have hol9 := ownE_len xs (effT (runB (newB gg n3 xs.length n1) gg acts).tb) (runB (newB gg n3 xs.length n1) gg acts).t.nodes
 refine Z1g ?_
 refine Zc ?_
 refine Z9m ?_
 refine Z8 ?_
 refine oi (os_call cb_20 rfl (fun w s => Roots_calls _ _  s )) ?_; rintro _ _ ⟨ao4, ac4, rfl, rfl⟩
 refine Zx ?_
 refine Z40 ?_
 refine Za ?_
 refine Z4u ?_
 refine Z48 ?_
 refine Z1 ?_
 refine cd_cond rfl (fun hb2 => ?_) (fun hb2 => ?_)
 ·have hp2 := hb2
  (try simp only [bn] at hp2)
  exact absurd (of_decide_eq_true hb2) (by omega)
 have hp2 := hb2
 (try simp only [bn] at hp2)
 refine Zl ?_
 refine cd_drawe (M := []) mx [1, 6, 7, 8] ?_
 refine Z1e ?_
 refine Z79 ?_
 refine e_q 3 rfl (wn_none rfl) (op_move (v := .slice _ _ _) rfl) ?_
 refine e_q 4 rfl (wn_none rfl) (op_index 0 sB_37 rfl rfl rfl (rds_row 0 rfl rfl) rfl (by omega)) ?_
 refine e_q 5 rfl (wn_none rfl) (op_ldaw (L := rootC _) ag_24 (rds_row 0 rfl rfl) rfl (by omega) rfl (rootC_ta _)) ?_
 refine et_2 (i1 := 1) (i2 := 7) (by kernel_rfl) ?_ ?_
 ·
  refine ei_i rfl rfl (wn_none rfl) (os_back (os_pull3 (os_pull2 (os_pull3 (os_call cb_38 rfl (fun w s => BHead_calls _ _ _ _ _ _ _ _ _ _ _ _ _ _ _ _ _ _ _ _  s (Nat.le_of_eq (ownE_len _ _ _)) (by rw [ownE_len]; exact hN09)))))) (fun _ s => (((((((((s.pull 8).pull 8).pull 8).pull 8).pull 8).pull 7).pull 6).pull 7).pull 8))) rfl ?_; rintro _ _ ⟨rfl, rfl⟩; refine ⟨[], rfl, ?_⟩
  refine et_2 (i1 := 6) (i2 := 7) (by kernel_rfl) ?_ ?_
  ·
   refine ei_i rfl rfl (wn_none rfl) (os_back (os_pull3 (os_pull2 (os_pull3 (os_call cb_37 rfl (fun w s => BWeight_calls _ _ _ _ _ _ _ _ _ _ _ _ _ _ _ _ _ _ _ _ _  s ))))) (fun _ s => (((((((((s.pull 8).pull 8).pull 8).pull 8).pull 8).pull 7).pull 6).pull 7).pull 8))) rfl ?_; rintro _ _ ⟨rfl, rfl⟩; rw [roots_at (by omega), ofF_rt hw9 hN09 (by rw [hol9]; exact hN09)]; refine ⟨[], rfl, ?_⟩
   refine Zm ?_
   refine Z9k ?_; intro bx3
   refine Zn ?_
   refine Z9l ?_
   refine e_q 9 rfl (wn_none rfl) (op_assign (v := .int _ _) rfl) ?_
   refine Zq ?_
   refine Z7 ?_
   have hi0 : idxOf (runB (newB gg n3 xs.length n1) gg acts).t.nodes ((runB (newB gg n3 xs.length n1) gg acts).t.roots[0]'(by omega)) = some 0 := by rw [roots_at (by omega)]; exact idx_rt hw9 hN09
   refine cd_pull3 ?_
   refine cd_pull3 ?_
   refine cd_pull4 ?_
   refine Z7 ?_
   refine cd_drawe (M := [_, _, _]) mx [4, 8, 17, 23, 24, 26] ?_
   refine Z1e ?_
   refine e_q 1 rfl (wn_none rfl) (op_move (v := .slice _ _ _) rfl) ?_
   refine Zbl ?_
   refine Zbm ?_
   refine Z1y ?_
   refine ei_i rfl rfl (wn_none rfl) (os_pull1 (os_pull2 (os_call cb_44 rfl (fun w s => BKeepS_calls _ _ _ _ _ _ _ _ _ _ _ _ _ _ _ _ _ _ _ _ _ _  s hi0 hsk)))) rfl ?_; rintro _ _ ⟨qt7, qw7, rfl, rfl⟩; rw [prT_all hw9]; refine ⟨[_, _, _], rfl, ?_⟩
   refine Zc4 ?_
   refine et_split 58 rfl (fun hb3 => ?_) (fun hb3 => ?_)
   ·have hp3 := hb3
    (try simp only [bn] at hp3)
    exact absurd hb3 (by decide)
   have hp3 := hb3
   (try simp only [bn] at hp3)
   refine e_q 7 rfl (wn_some rfl rfl rfl hb3 rfl) (op_move (v := .pointer _) rfl) ?_
   refine e_q 9 rfl (wn_some rfl rfl rfl hb3 rfl) (op_lda (L := rootC _) 0 ag_24 rfl rfl (rootC_take' _) (by simp [rootC_len])) ?_
   refine Zn ?_
   refine ei_i rfl rfl (wn_some rfl rfl rfl hb3 rfl) (os_back (os_pull2 (os_pull2 (os_pull2 (os_call cb_38 rfl (fun w s => BHead_calls _ _ _ _ _ _ _ _ _ _ _ _ _ _ _ _ _ _ _ _  s (Nat.le_of_eq (ownE_len _ _ _)) (by rw [ownE_len]; exact hN09)))))) (fun _ s => s)) rfl ?_; rintro _ _ ⟨rfl, rfl⟩; refine ⟨[_, _, _], rfl, ?_⟩
   refine e_q 10 rfl (wn_some rfl rfl rfl hb3 rfl) (op_neroot _ _ rB_24 rfl rfl) ?_
   refine e_q 11 rfl (wn_none rfl) (op_pick_f (v := .bool _) rfl hb3 rfl) ?_
   refine e_q 12 rfl (wn_none rfl) (op_move (v := .bool _) rfl) ?_
   refine et_split 64 rfl (fun hb4 => ?_) (fun hb4 => ?_)
   ·have hp4 := hb4
    (try simp only [bn] at hp4)
    exact absurd hb4 (by simp)
   have hp4 := hb4
   (try simp only [bn] at hp4)
   refine e_q 13 rfl (wn_some rfl rfl rfl hb4 rfl) (op_move (v := .pointer _) rfl) ?_
   refine e_q 14 rfl (wn_some rfl rfl rfl hb4 rfl) (op_move (v := .slice _ _ _) rfl) ?_
   refine e_q 15 rfl (wn_some rfl rfl rfl hb4 rfl) (op_index 0 sB_37 rfl rfl rfl (rds_row 1 rfl rfl) rfl (by omega)) ?_
   refine e_q 16 rfl (wn_some rfl rfl rfl hb4 rfl) (op_ldaw (L := rootC _) ag_24 (rds_row 1 rfl rfl) rfl (by omega) rfl (rootC_ta _)) ?_
   refine e_q 18 rfl (wn_some rfl rfl rfl hb4 rfl) (op_move (v := .int _ _) rfl) ?_
   refine Z6f ?_
   refine ei_i rfl rfl (wn_some rfl rfl rfl hb4 rfl) (os_back (os_pull2 (os_pull2 (os_pull2 (os_call cb_37 rfl (fun w s => BWeight_calls _ _ _ _ _ _ _ _ _ _ _ _ _ _ _ _ _ _ _ _ _  s ))))) (fun _ s => s)) rfl ?_; rintro _ _ ⟨rfl, rfl⟩; rw [roots_at (by omega), ofF_rt hw9 hN09 (by rw [hol9]; exact hN09)]; refine ⟨[_, _, _], rfl, ?_⟩
   refine e_q 19 rfl (wn_some rfl rfl rfl hb4 rfl) (op_ne rfl rfl) ?_
   refine e_q 20 rfl (wn_none rfl) (op_pick_f (v := .bool _) rfl hb4 rfl) ?_
   refine Z6x ?_
   refine et_split 73 rfl (fun hb5 => ?_) (fun hb5 => ?_)
   ·have hp5 := hb5
    (try simp only [bn] at hp5)
    exact absurd hb5 (by simp)
   have hp5 := hb5
   (try simp only [bn] at hp5)
   refine e_q 22 rfl (wn_some rfl rfl rfl hb5 rfl) (op_move (v := .pointer _) rfl) ?_
   refine e_q 25 rfl (wn_some rfl rfl rfl hb5 rfl) (op_move (v := .slice _ _ _) rfl) ?_
   refine Z4x ?_
   refine ei_i rfl rfl (wn_some rfl rfl rfl hb5 rfl) (os_call cb_36 rfl (fun w s => BTree_calls _ _ _ _ _ _ _ _ _ _ _ _ _ _ _ _ _ _  s )) rfl ?_; rintro _ _ ⟨rfl, rfl⟩; refine ⟨[_, _, _], rfl, ?_⟩
   refine et_1 (i := 24) (by kernel_rfl) ?_
   refine ei_i rfl rfl (wn_some rfl rfl rfl hb5 rfl) (os_pull1 (os_call cb_20 rfl (fun w s => Roots_calls _ _  s ))) rfl ?_; rintro _ _ ⟨ao11, ac11, rfl, rfl⟩; refine ⟨[_, _, _, _], rfl, ?_⟩
   refine et_1 (i := 26) (by kernel_rfl) ?_
   refine ei_i rfl rfl (wn_some rfl rfl rfl hb5 rfl) (os_call cb_19 rfl (fun w s => Same_calls _ _ _ _ _ _  s (rds_row 0 rfl rfl) (rds_row 5 rfl rfl) (by omega))) rfl ?_; rintro _ _ ⟨rfl, rfl⟩; refine ⟨[_, _, _, _], rfl, ?_⟩
   refine e_q 27 rfl (wn_some rfl rfl rfl hb5 rfl) (op_not rfl) ?_
   refine e_q 28 rfl (wn_none rfl) (op_pick_f (v := .bool _) rfl hb5 rfl) ?_
   refine Zq ?_
   refine cd_cond rfl (fun hb6 => ?_) (fun hb6 => ?_)
   ·have hp6 := hb6
    (try simp only [bn] at hp6)
    exact absurd hb6 (by simp)
   have hp6 := hb6
   (try simp only [bn] at hp6)
   refine Z9 ?_
   refine Z0 ?_
   refine Za ?_
   refine Z4 ?_
   refine Zai ?_
   refine Za ?_
   refine Z4u ?_
   refine Zbn ?_
   refine oq (op_remn rfl rfl (by omega)) ?_
   refine Zbo ?_
   refine Zbp ?_
   refine Zbq ?_
   refine Z1n ?_; intro bx4
   refine Z3l ?_
   refine Z1 ?_
   have hx0 : u64N at_ % (runB (newB gg n3 xs.length n1) gg acts).t.roots.length < (runB (newB gg n3 xs.length n1) gg acts).t.roots.length := Nat.mod_lt _ (by omega)
   rw [roots_at hx0]
   generalize u64N at_ % (runB (newB gg n3 xs.length n1) gg acts).t.roots.length = x0 at hx0 ⊢
   have hxl0 : x0 < (runB (newB gg n3 xs.length n1) gg acts).t.nodes.length := by omega
   have hix := idx_rt hw9 hxl0
   have hlf := leaf_lt hw9 hol9
   have hbh : (runB (newB gg n3 xs.length n1) gg acts).t.below (rtA (runB (newB gg n3 xs.length n1) gg acts).t.nodes x0) (headW (runB (newB gg n3 xs.length n1) gg acts).t.nodes (ownE xs (effT (runB (newB gg n3 xs.length n1) gg acts).tb) (runB (newB gg n3 xs.length n1) gg acts).t.nodes)) = belI (runB (newB gg n3 xs.length n1) gg acts).t.nodes x0 ((leafN (runB (newB gg n3 xs.length n1) gg acts).t.nodes (oA (sumL (runB (newB gg n3 xs.length n1) gg acts).t.nodes (ownE xs (effT (runB (newB gg n3 xs.length n1) gg acts).tb) (runB (newB gg n3 xs.length n1) gg acts).t.nodes))) (ownE xs (effT (runB (newB gg n3 xs.length n1) gg acts).tb) (runB (newB gg n3 xs.length n1) gg acts).t.nodes).length 0 : Nat) : Int) := below_rt hw9 hix hlf
   have hple := prO_le (t := (runB (newB gg n3 xs.length n1) gg acts).t) x0 (ownE xs (effT (runB (newB gg n3 xs.length n1) gg acts).tb) (runB (newB gg n3 xs.length n1) gg acts).t.nodes)
   have hpos := prO_pos (t := (runB (newB gg n3 xs.length n1) gg acts).t) hxl0 (ownE xs (effT (runB (newB gg n3 xs.length n1) gg acts).tb) (runB (newB gg n3 xs.length n1) gg acts).t.nodes)
   rw [pr_ownE hw9 x0] at hple hpos
   have hwp := weight_pr hw9 hxl0 hol9 hxl0 belI_eq
   rw [pr_ownE hw9 x0] at hwp
   have hkh := fun hbb => keep_head hw9 hxl0 hol9 hbb
   rw [pr_ownE hw9 x0] at hkh
   have hpp : (prT (runB (newB gg n3 xs.length n1) gg acts).t x0).place (rtA (runB (newB gg n3 xs.length n1) gg acts).t.nodes x0) = 0 := by rw [place_pr hw9 hxl0, if_pos belI_eq, rk_self]; rfl
   refine Z52 ?_
   refine cd_draw (M := [_]) mx [1, 4] (by kernel_rfl) ?_
   refine Ze ?_
   refine Zbr ?_
   refine Z10 ?_
   refine Z9x ?_
   refine rg_i (wn_none rfl) (os_call cb_30 rfl (fun w s => Below_calls _ _ _ _  s )) rfl rfl ?_; rintro _ l ⟨rfl, rfl⟩; rw [hbh]; refine ⟨[_], rfl, ?_⟩
   refine Z2i ?_
   refine rg_nil_then1 ?_
   refine Zc ?_
   refine Z5e ?_
   refine ol_pull4 ?_
   refine Z8 ?_
   refine ol_pull4 ?_
   refine Zbs ?_
   refine Z53 ?_
   refine Z52 ?_
   refine cd_drawe (M := [_, _, _]) mx [2, 7, 16, 23, 25] ?_
   refine Z1e ?_
   refine Z7g ?_
   refine Z6b ?_
   refine Zbt ?_; intro qt16 qw16
   refine e_q 3 rfl (wn_none rfl) (op_eq rfl rfl) ?_
   refine Z5m ?_
   refine et_split 103 rfl (fun hb7 => ?_) (fun hb7 => ?_)
   ·have hp7 := hb7
    (try simp only [bn] at hp7)
    refine e_q 5 rfl (wn_some rfl rfl rfl hb7 rfl) (op_move (v := .pointer _) rfl) ?_
    refine e_q 6 rfl (wn_some rfl rfl rfl hb7 rfl) (op_lda (L := rootC _) 0 ag_24 rfl rfl (rootC_take' _) (by simp [rootC_len])) ?_
    refine e_q 8 rfl (wn_some rfl rfl rfl hb7 rfl) (op_move (v := .int _ _) rfl) ?_
    refine Zm ?_
    refine ei_i rfl rfl (wn_some rfl rfl rfl hb7 rfl) (os_back (os_pull2 (os_pull2 (os_pull2 (os_call cb_37 rfl (fun w s => BWeight_calls _ _ _ _ _ _ _ _ _ _ _ _ _ _ _ _ _ _ _ _ _  s ))))) (fun _ s => (((s.push 2).push 2).push 2))) rfl ?_; rintro _ _ ⟨rfl, rfl⟩; rw [hwp]; refine ⟨[_, _, _], rfl, ?_⟩
    refine e_q 9 rfl (wn_some rfl rfl rfl hb7 rfl) (op_eq rfl rfl) ?_
    refine e_q 10 rfl (wn_none rfl) (op_pick_t (v := .bool _) rfl hb7 rfl) ?_
    refine Zau ?_
    refine et_split 110 rfl (fun hb8 => ?_) (fun hb8 => ?_)
    ·have hp8 := hb8
     (try simp only [bn] at hp8)
     refine e_q 12 rfl (wn_some rfl rfl rfl hb8 rfl) (op_move (v := .bool _) rfl) ?_
     refine e_q 13 rfl (wn_some rfl rfl rfl hb8 rfl) (op_not rfl) ?_
     refine e_q 14 rfl (wn_some rfl rfl rfl hb8 rfl) (op_move (v := .bool _) rfl) ?_
     refine et_split 113 rfl (fun hb9 => ?_) (fun hb9 => ?_)
     ·have hp9 := hb9
      (try simp only [bn] at hp9)
      refine et_skip 15 (by kernel_rfl) rfl (by kernel_rfl) (wn_some rfl rfl rfl hb9 rfl) rfl ?_
      refine et_skip 17 (by kernel_rfl) rfl (by kernel_rfl) (wn_some rfl rfl rfl hb9 rfl) rfl ?_
      refine Z3r ?_
      refine ei_skip rfl (wn_some rfl rfl rfl hb9 rfl) rfl ?_
      refine et_skip 18 (by kernel_rfl) rfl (by kernel_rfl) (wn_some rfl rfl rfl hb9 rfl) rfl ?_
      refine e_q 19 rfl (wn_some rfl rfl rfl hb8 rfl) (op_pick_t (v := .bool _) rfl hb9 rfl) ?_
      refine e_q 20 rfl (wn_none rfl) (op_pick_t (v := .bool _) rfl hb8 rfl) ?_
      refine Zc5 ?_
      refine Zbu ?_
      refine Z4x ?_
      refine Zbv ?_
      refine et_1 (i := 25) (by kernel_rfl) ?_
      refine ei_i rfl rfl (wn_some rfl rfl rfl rfl rfl) (os_back (os_pull1 (os_call cb_31 rfl (fun w s => Place_calls _ _ _  s ))) (fun _ s => (s.push 1))) rfl ?_; rintro _ _ ⟨rfl, rfl⟩; rw [hpp]; refine ⟨[_, _, _], rfl, ?_⟩
      refine Zc0 ?_
      refine Z6m ?_
      refine Z1c ?_
      exact Z8r
     have hp9 := hb9
     (try simp only [bn] at hp9)
     have hbb : belI (runB (newB gg n3 xs.length n1) gg acts).t.nodes x0 ((leafN (runB (newB gg n3 xs.length n1) gg acts).t.nodes (oA (sumL (runB (newB gg n3 xs.length n1) gg acts).t.nodes (ownE xs (effT (runB (newB gg n3 xs.length n1) gg acts).tb) (runB (newB gg n3 xs.length n1) gg acts).t.nodes))) (ownE xs (effT (runB (newB gg n3 xs.length n1) gg acts).tb) (runB (newB gg n3 xs.length n1) gg acts).t.nodes).length 0 : Nat) : Int) = true := by simpa using hb9
     refine e_q 15 rfl (wn_some rfl rfl rfl hb9 rfl) (op_move (v := .pointer _) rfl) ?_
     refine e_q 17 rfl (wn_some rfl rfl rfl hb9 rfl) (op_lda (L := rootC _) 2 ag_24 rfl rfl (rootC_take' _) (by simp [rootC_len])) ?_
     refine Z3r ?_
     refine ei_i rfl rfl (wn_some rfl rfl rfl hb9 rfl) (os_back (os_pull2 (os_pull2 (os_pull2 (os_call cb_38 rfl (fun w s => BHead_calls _ _ _ _ _ _ _ _ _ _ _ _ _ _ _ _ _ _ _ _  s hple hpos))))) (fun _ s => (((s.push 2).push 2).push 2))) rfl ?_; rintro _ _ ⟨rfl, rfl⟩; rw [hkh hbb]; refine ⟨[_, _, _], rfl, ?_⟩
     refine e_q 18 rfl (wn_some rfl rfl rfl hb9 rfl) (op_eqroot _ _ rB_24 rfl rfl) ?_
     refine e_q 19 rfl (wn_some rfl rfl rfl hb8 rfl) (op_pick_f (v := .bool _) rfl hb9 rfl) ?_
     refine e_q 20 rfl (wn_none rfl) (op_pick_t (v := .bool _) rfl hb8 rfl) ?_
     refine Z6x ?_
     refine et_split 120 rfl (fun hb10 => ?_) (fun hb10 => ?_)
     ·have hp10 := hb10
      (try simp only [bn] at hp10)
      refine e_q 22 rfl (wn_some rfl rfl rfl hb10 rfl) (op_move (v := .pointer _) rfl) ?_
      refine e_q 24 rfl (wn_some rfl rfl rfl hb10 rfl) (op_lda (L := rootC _) 0 ag_24 rfl rfl (rootC_take' _) (by simp [rootC_len])) ?_
      refine Z4x ?_
      refine ei_i rfl rfl (wn_some rfl rfl rfl hb10 rfl) (os_call cb_36 rfl (fun w s => BTree_calls _ _ _ _ _ _ _ _ _ _ _ _ _ _ _ _ _ _  s )) rfl ?_; rintro _ _ ⟨rfl, rfl⟩; refine ⟨[_, _, _], rfl, ?_⟩
      refine et_1 (i := 25) (by kernel_rfl) ?_
      refine ei_i rfl rfl (wn_some rfl rfl rfl hb10 rfl) (os_back (os_pull1 (os_call cb_31 rfl (fun w s => Place_calls _ _ _  s ))) (fun _ s => (s.push 1))) rfl ?_; rintro _ _ ⟨rfl, rfl⟩; rw [hpp]; refine ⟨[_, _, _], rfl, ?_⟩
      refine e_q 26 rfl (wn_some rfl rfl rfl hb10 rfl) (op_eq rfl rfl) ?_
      refine e_q 27 rfl (wn_none rfl) (op_pick_t (v := .bool _) rfl hb10 rfl) ?_
      refine Z6m ?_
      refine Z1c ?_
      exact Z8r
     have hp10 := hb10
     (try simp only [bn] at hp10)
     exact absurd hb10 (by simp)
    have hp8 := hb8
    (try simp only [bn] at hp8)
    exact absurd hb8 (by simp)
   have hp7 := hb7
   (try simp only [bn] at hp7)
   exact absurd hb7 (by decide)
  refine Z9k ?_; intro bx5
  refine Zz ?_
  refine ei_i rfl rfl (wn_none rfl) (os_back (os_pull4 (os_pull3 (os_pull4 (os_call cb_37 rfl (fun w s => BWeight_calls _ _ _ _ _ _ _ _ _ _ _ _ _ _ _ _ _ _ _ _ _  s ))))) (fun _ s => ((((((((((s.pull 9).pull 9).pull 9).pull 9).pull 9).pull 7).pull 6).pull 7).pull 9).pull 9))) rfl ?_; rintro _ _ ⟨rfl, rfl⟩; rw [roots_at (by omega), ofF_rt hw9 hN09 (by rw [hol9]; exact hN09)]; refine ⟨[_], rfl, ?_⟩
  refine Zn ?_
  refine Z9l ?_
  refine e_q 9 rfl (wn_none rfl) (op_assign (v := .int _ _) rfl) ?_
  refine Zq ?_
  refine Z7 ?_
  have hi0 : idxOf (runB (newB gg n3 xs.length n1) gg acts).t.nodes ((runB (newB gg n3 xs.length n1) gg acts).t.roots[0]'(by omega)) = some 0 := by rw [roots_at (by omega)]; exact idx_rt hw9 hN09
  refine cd_pull3 ?_
  refine cd_pull3 ?_
  refine cd_pull4 ?_
  refine Z7 ?_
  refine cd_drawe (M := [_, _, _]) mx [4, 8, 17, 23, 24, 26] ?_
  refine Z1e ?_
  refine e_q 1 rfl (wn_none rfl) (op_move (v := .slice _ _ _) rfl) ?_
  refine Zbl ?_
  refine Zbm ?_
  refine Z1y ?_
  refine ei_i rfl rfl (wn_none rfl) (os_pull1 (os_pull2 (os_call cb_44 rfl (fun w s => BKeepS_calls _ _ _ _ _ _ _ _ _ _ _ _ _ _ _ _ _ _ _ _ _ _  s hi0 hsk)))) rfl ?_; rintro _ _ ⟨qt24, qw24, rfl, rfl⟩; rw [prT_all hw9]; refine ⟨[_, _, _], rfl, ?_⟩
  refine Zc4 ?_
  refine et_split 58 rfl (fun hb11 => ?_) (fun hb11 => ?_)
  ·have hp11 := hb11
   (try simp only [bn] at hp11)
   exact absurd hb11 (by decide)
  have hp11 := hb11
  (try simp only [bn] at hp11)
  refine e_q 7 rfl (wn_some rfl rfl rfl hb11 rfl) (op_move (v := .pointer _) rfl) ?_
  refine e_q 9 rfl (wn_some rfl rfl rfl hb11 rfl) (op_lda (L := rootC _) 0 ag_24 rfl rfl (rootC_take' _) (by simp [rootC_len])) ?_
  refine Zn ?_
  refine ei_i rfl rfl (wn_some rfl rfl rfl hb11 rfl) (os_back (os_pull2 (os_pull2 (os_pull2 (os_call cb_38 rfl (fun w s => BHead_calls _ _ _ _ _ _ _ _ _ _ _ _ _ _ _ _ _ _ _ _  s (Nat.le_of_eq (ownE_len _ _ _)) (by rw [ownE_len]; exact hN09)))))) (fun _ s => s)) rfl ?_; rintro _ _ ⟨rfl, rfl⟩; refine ⟨[_, _, _], rfl, ?_⟩
  refine e_q 10 rfl (wn_some rfl rfl rfl hb11 rfl) (op_neroot _ _ rB_24 rfl rfl) ?_
  refine e_q 11 rfl (wn_none rfl) (op_pick_f (v := .bool _) rfl hb11 rfl) ?_
  refine e_q 12 rfl (wn_none rfl) (op_move (v := .bool _) rfl) ?_
  refine et_split 64 rfl (fun hb12 => ?_) (fun hb12 => ?_)
  ·have hp12 := hb12
   (try simp only [bn] at hp12)
   exact absurd hb12 (by simp)
  have hp12 := hb12
  (try simp only [bn] at hp12)
  refine e_q 13 rfl (wn_some rfl rfl rfl hb12 rfl) (op_move (v := .pointer _) rfl) ?_
  refine e_q 14 rfl (wn_some rfl rfl rfl hb12 rfl) (op_move (v := .slice _ _ _) rfl) ?_
  refine e_q 15 rfl (wn_some rfl rfl rfl hb12 rfl) (op_index 0 sB_37 rfl rfl rfl (rds_row 1 rfl rfl) rfl (by omega)) ?_
  refine e_q 16 rfl (wn_some rfl rfl rfl hb12 rfl) (op_ldaw (L := rootC _) ag_24 (rds_row 1 rfl rfl) rfl (by omega) rfl (rootC_ta _)) ?_
  refine e_q 18 rfl (wn_some rfl rfl rfl hb12 rfl) (op_move (v := .int _ _) rfl) ?_
  refine Z6f ?_
  refine ei_i rfl rfl (wn_some rfl rfl rfl hb12 rfl) (os_back (os_pull2 (os_pull2 (os_pull2 (os_call cb_37 rfl (fun w s => BWeight_calls _ _ _ _ _ _ _ _ _ _ _ _ _ _ _ _ _ _ _ _ _  s ))))) (fun _ s => s)) rfl ?_; rintro _ _ ⟨rfl, rfl⟩; rw [roots_at (by omega), ofF_rt hw9 hN09 (by rw [hol9]; exact hN09)]; refine ⟨[_, _, _], rfl, ?_⟩
  refine e_q 19 rfl (wn_some rfl rfl rfl hb12 rfl) (op_ne rfl rfl) ?_
  refine e_q 20 rfl (wn_none rfl) (op_pick_f (v := .bool _) rfl hb12 rfl) ?_
  refine Z6x ?_
  refine et_split 73 rfl (fun hb13 => ?_) (fun hb13 => ?_)
  ·have hp13 := hb13
   (try simp only [bn] at hp13)
   exact absurd hb13 (by simp)
  have hp13 := hb13
  (try simp only [bn] at hp13)
  refine e_q 22 rfl (wn_some rfl rfl rfl hb13 rfl) (op_move (v := .pointer _) rfl) ?_
  refine e_q 25 rfl (wn_some rfl rfl rfl hb13 rfl) (op_move (v := .slice _ _ _) rfl) ?_
  refine Z4x ?_
  refine ei_i rfl rfl (wn_some rfl rfl rfl hb13 rfl) (os_call cb_36 rfl (fun w s => BTree_calls _ _ _ _ _ _ _ _ _ _ _ _ _ _ _ _ _ _  s )) rfl ?_; rintro _ _ ⟨rfl, rfl⟩; refine ⟨[_, _, _], rfl, ?_⟩
  refine et_1 (i := 24) (by kernel_rfl) ?_
  refine ei_i rfl rfl (wn_some rfl rfl rfl hb13 rfl) (os_pull1 (os_call cb_20 rfl (fun w s => Roots_calls _ _  s ))) rfl ?_; rintro _ _ ⟨ao28, ac28, rfl, rfl⟩; refine ⟨[_, _, _, _], rfl, ?_⟩
  refine et_1 (i := 26) (by kernel_rfl) ?_
  refine ei_i rfl rfl (wn_some rfl rfl rfl hb13 rfl) (os_call cb_19 rfl (fun w s => Same_calls _ _ _ _ _ _  s (rds_row 0 rfl rfl) (rds_row 5 rfl rfl) (by omega))) rfl ?_; rintro _ _ ⟨rfl, rfl⟩; refine ⟨[_, _, _, _], rfl, ?_⟩
  refine e_q 27 rfl (wn_some rfl rfl rfl hb13 rfl) (op_not rfl) ?_
  refine e_q 28 rfl (wn_none rfl) (op_pick_f (v := .bool _) rfl hb13 rfl) ?_
  refine Zq ?_
  refine cd_cond rfl (fun hb14 => ?_) (fun hb14 => ?_)
  ·have hp14 := hb14
   (try simp only [bn] at hp14)
   exact absurd hb14 (by simp)
  have hp14 := hb14
  (try simp only [bn] at hp14)
  refine Z9 ?_
  refine Z0 ?_
  refine Za ?_
  refine Z4 ?_
  refine Zai ?_
  refine Za ?_
  refine Z4u ?_
  refine Zbn ?_
  refine oq (op_remn rfl rfl (by omega)) ?_
  refine Zbo ?_
  refine Zbp ?_
  refine Zbq ?_
  refine Z1n ?_; intro bx6
  refine Z3l ?_
  refine Z1 ?_
  have hx0 : u64N at_ % (runB (newB gg n3 xs.length n1) gg acts).t.roots.length < (runB (newB gg n3 xs.length n1) gg acts).t.roots.length := Nat.mod_lt _ (by omega)
  rw [roots_at hx0]
  generalize u64N at_ % (runB (newB gg n3 xs.length n1) gg acts).t.roots.length = x0 at hx0 ⊢
  have hxl0 : x0 < (runB (newB gg n3 xs.length n1) gg acts).t.nodes.length := by omega
  have hix := idx_rt hw9 hxl0
  have hlf := leaf_lt hw9 hol9
  have hbh : (runB (newB gg n3 xs.length n1) gg acts).t.below (rtA (runB (newB gg n3 xs.length n1) gg acts).t.nodes x0) (headW (runB (newB gg n3 xs.length n1) gg acts).t.nodes (ownE xs (effT (runB (newB gg n3 xs.length n1) gg acts).tb) (runB (newB gg n3 xs.length n1) gg acts).t.nodes)) = belI (runB (newB gg n3 xs.length n1) gg acts).t.nodes x0 ((leafN (runB (newB gg n3 xs.length n1) gg acts).t.nodes (oA (sumL (runB (newB gg n3 xs.length n1) gg acts).t.nodes (ownE xs (effT (runB (newB gg n3 xs.length n1) gg acts).tb) (runB (newB gg n3 xs.length n1) gg acts).t.nodes))) (ownE xs (effT (runB (newB gg n3 xs.length n1) gg acts).tb) (runB (newB gg n3 xs.length n1) gg acts).t.nodes).length 0 : Nat) : Int) := below_rt hw9 hix hlf
  have hple := prO_le (t := (runB (newB gg n3 xs.length n1) gg acts).t) x0 (ownE xs (effT (runB (newB gg n3 xs.length n1) gg acts).tb) (runB (newB gg n3 xs.length n1) gg acts).t.nodes)
  have hpos := prO_pos (t := (runB (newB gg n3 xs.length n1) gg acts).t) hxl0 (ownE xs (effT (runB (newB gg n3 xs.length n1) gg acts).tb) (runB (newB gg n3 xs.length n1) gg acts).t.nodes)
  rw [pr_ownE hw9 x0] at hple hpos
  have hwp := weight_pr hw9 hxl0 hol9 hxl0 belI_eq
  rw [pr_ownE hw9 x0] at hwp
  have hkh := fun hbb => keep_head hw9 hxl0 hol9 hbb
  rw [pr_ownE hw9 x0] at hkh
  have hpp : (prT (runB (newB gg n3 xs.length n1) gg acts).t x0).place (rtA (runB (newB gg n3 xs.length n1) gg acts).t.nodes x0) = 0 := by rw [place_pr hw9 hxl0, if_pos belI_eq, rk_self]; rfl
  refine Z52 ?_
  refine cd_draw (M := [_]) mx [1, 4] (by kernel_rfl) ?_
  refine Ze ?_
  refine Zbr ?_
  refine Z10 ?_
  refine Z9x ?_
  refine rg_i (wn_none rfl) (os_call cb_30 rfl (fun w s => Below_calls _ _ _ _  s )) rfl rfl ?_; rintro _ l ⟨rfl, rfl⟩; rw [hbh]; refine ⟨[_], rfl, ?_⟩
  refine Z2i ?_
  refine rg_nil_then1 ?_
  refine Zc ?_
  refine Z5e ?_
  refine ol_pull4 ?_
  refine Z8 ?_
  refine ol_pull4 ?_
  refine Zbs ?_
  refine Z53 ?_
  refine Z52 ?_
  refine cd_drawe (M := [_, _, _]) mx [2, 7, 16, 23, 25] ?_
  refine Z1e ?_
  refine Z7g ?_
  refine Z6b ?_
  refine Zbt ?_; intro qt33 qw33
  refine e_q 3 rfl (wn_none rfl) (op_eq rfl rfl) ?_
  refine Z5m ?_
  refine et_split 103 rfl (fun hb15 => ?_) (fun hb15 => ?_)
  ·have hp15 := hb15
   (try simp only [bn] at hp15)
   refine e_q 5 rfl (wn_some rfl rfl rfl hb15 rfl) (op_move (v := .pointer _) rfl) ?_
   refine e_q 6 rfl (wn_some rfl rfl rfl hb15 rfl) (op_lda (L := rootC _) 0 ag_24 rfl rfl (rootC_take' _) (by simp [rootC_len])) ?_
   refine e_q 8 rfl (wn_some rfl rfl rfl hb15 rfl) (op_move (v := .int _ _) rfl) ?_
   refine Zm ?_
   refine ei_i rfl rfl (wn_some rfl rfl rfl hb15 rfl) (os_back (os_pull2 (os_pull2 (os_pull2 (os_call cb_37 rfl (fun w s => BWeight_calls _ _ _ _ _ _ _ _ _ _ _ _ _ _ _ _ _ _ _ _ _  s ))))) (fun _ s => (((s.push 2).push 2).push 2))) rfl ?_; rintro _ _ ⟨rfl, rfl⟩; rw [hwp]; refine ⟨[_, _, _], rfl, ?_⟩
   refine e_q 9 rfl (wn_some rfl rfl rfl hb15 rfl) (op_eq rfl rfl) ?_
   refine e_q 10 rfl (wn_none rfl) (op_pick_t (v := .bool _) rfl hb15 rfl) ?_
   refine Zau ?_
   refine et_split 110 rfl (fun hb16 => ?_) (fun hb16 => ?_)
   ·have hp16 := hb16
    (try simp only [bn] at hp16)
    refine e_q 12 rfl (wn_some rfl rfl rfl hb16 rfl) (op_move (v := .bool _) rfl) ?_
    refine e_q 13 rfl (wn_some rfl rfl rfl hb16 rfl) (op_not rfl) ?_
    refine e_q 14 rfl (wn_some rfl rfl rfl hb16 rfl) (op_move (v := .bool _) rfl) ?_
    refine et_split 113 rfl (fun hb17 => ?_) (fun hb17 => ?_)
    ·have hp17 := hb17
     (try simp only [bn] at hp17)
     refine et_skip 15 (by kernel_rfl) rfl (by kernel_rfl) (wn_some rfl rfl rfl hb17 rfl) rfl ?_
     refine et_skip 17 (by kernel_rfl) rfl (by kernel_rfl) (wn_some rfl rfl rfl hb17 rfl) rfl ?_
     refine Z3r ?_
     refine ei_skip rfl (wn_some rfl rfl rfl hb17 rfl) rfl ?_
     refine et_skip 18 (by kernel_rfl) rfl (by kernel_rfl) (wn_some rfl rfl rfl hb17 rfl) rfl ?_
     refine e_q 19 rfl (wn_some rfl rfl rfl hb16 rfl) (op_pick_t (v := .bool _) rfl hb17 rfl) ?_
     refine e_q 20 rfl (wn_none rfl) (op_pick_t (v := .bool _) rfl hb16 rfl) ?_
     refine Zc5 ?_
     refine Zbu ?_
     refine Z4x ?_
     refine Zbv ?_
     refine et_1 (i := 25) (by kernel_rfl) ?_
     refine ei_i rfl rfl (wn_some rfl rfl rfl rfl rfl) (os_back (os_pull1 (os_call cb_31 rfl (fun w s => Place_calls _ _ _  s ))) (fun _ s => (s.push 1))) rfl ?_; rintro _ _ ⟨rfl, rfl⟩; rw [hpp]; refine ⟨[_, _, _], rfl, ?_⟩
     refine Zc0 ?_
     refine Z6m ?_
     refine Z1c ?_
     exact Z8r
    have hp17 := hb17
    (try simp only [bn] at hp17)
    have hbb : belI (runB (newB gg n3 xs.length n1) gg acts).t.nodes x0 ((leafN (runB (newB gg n3 xs.length n1) gg acts).t.nodes (oA (sumL (runB (newB gg n3 xs.length n1) gg acts).t.nodes (ownE xs (effT (runB (newB gg n3 xs.length n1) gg acts).tb) (runB (newB gg n3 xs.length n1) gg acts).t.nodes))) (ownE xs (effT (runB (newB gg n3 xs.length n1) gg acts).tb) (runB (newB gg n3 xs.length n1) gg acts).t.nodes).length 0 : Nat) : Int) = true := by simpa using hb17
    refine e_q 15 rfl (wn_some rfl rfl rfl hb17 rfl) (op_move (v := .pointer _) rfl) ?_
    refine e_q 17 rfl (wn_some rfl rfl rfl hb17 rfl) (op_lda (L := rootC _) 2 ag_24 rfl rfl (rootC_take' _) (by simp [rootC_len])) ?_
    refine Z3r ?_
    refine ei_i rfl rfl (wn_some rfl rfl rfl hb17 rfl) (os_back (os_pull2 (os_pull2 (os_pull2 (os_call cb_38 rfl (fun w s => BHead_calls _ _ _ _ _ _ _ _ _ _ _ _ _ _ _ _ _ _ _ _  s hple hpos))))) (fun _ s => (((s.push 2).push 2).push 2))) rfl ?_; rintro _ _ ⟨rfl, rfl⟩; rw [hkh hbb]; refine ⟨[_, _, _], rfl, ?_⟩
    refine e_q 18 rfl (wn_some rfl rfl rfl hb17 rfl) (op_eqroot _ _ rB_24 rfl rfl) ?_
    refine e_q 19 rfl (wn_some rfl rfl rfl hb16 rfl) (op_pick_f (v := .bool _) rfl hb17 rfl) ?_
    refine e_q 20 rfl (wn_none rfl) (op_pick_t (v := .bool _) rfl hb16 rfl) ?_
    refine Z6x ?_
    refine et_split 120 rfl (fun hb18 => ?_) (fun hb18 => ?_)
    ·have hp18 := hb18
     (try simp only [bn] at hp18)
     refine e_q 22 rfl (wn_some rfl rfl rfl hb18 rfl) (op_move (v := .pointer _) rfl) ?_
     refine e_q 24 rfl (wn_some rfl rfl rfl hb18 rfl) (op_lda (L := rootC _) 0 ag_24 rfl rfl (rootC_take' _) (by simp [rootC_len])) ?_
     refine Z4x ?_
     refine ei_i rfl rfl (wn_some rfl rfl rfl hb18 rfl) (os_call cb_36 rfl (fun w s => BTree_calls _ _ _ _ _ _ _ _ _ _ _ _ _ _ _ _ _ _  s )) rfl ?_; rintro _ _ ⟨rfl, rfl⟩; refine ⟨[_, _, _], rfl, ?_⟩
     refine et_1 (i := 25) (by kernel_rfl) ?_
     refine ei_i rfl rfl (wn_some rfl rfl rfl hb18 rfl) (os_back (os_pull1 (os_call cb_31 rfl (fun w s => Place_calls _ _ _  s ))) (fun _ s => (s.push 1))) rfl ?_; rintro _ _ ⟨rfl, rfl⟩; rw [hpp]; refine ⟨[_, _, _], rfl, ?_⟩
     refine e_q 26 rfl (wn_some rfl rfl rfl hb18 rfl) (op_eq rfl rfl) ?_
     refine e_q 27 rfl (wn_none rfl) (op_pick_t (v := .bool _) rfl hb18 rfl) ?_
     refine Z6m ?_
     refine Z1c ?_
     exact Z8r
    have hp18 := hb18
    (try simp only [bn] at hp18)
    exact absurd hb18 (by simp)
   have hp16 := hb16
   (try simp only [bn] at hp16)
   exact absurd hb16 (by simp)
  have hp15 := hb15
  (try simp only [bn] at hp15)
  exact absurd hb15 (by decide)
 refine Z9k ?_; intro bx7
 refine Z3f ?_
 refine ei_i rfl rfl (wn_none rfl) (os_back (os_pull4 (os_pull3 (os_pull4 (os_call cb_38 rfl (fun w s => BHead_calls _ _ _ _ _ _ _ _ _ _ _ _ _ _ _ _ _ _ _ _  s (Nat.le_of_eq (ownE_len _ _ _)) (by rw [ownE_len]; exact hN09)))))) (fun _ s => ((((((((((s.pull 9).pull 9).pull 9).pull 9).pull 9).pull 7).pull 6).pull 7).pull 9).pull 9))) rfl ?_; rintro _ _ ⟨rfl, rfl⟩; refine ⟨[_], rfl, ?_⟩
 refine Zz ?_
 refine ei_i rfl rfl (wn_none rfl) (os_back (os_pull4 (os_pull3 (os_pull4 (os_call cb_37 rfl (fun w s => BWeight_calls _ _ _ _ _ _ _ _ _ _ _ _ _ _ _ _ _ _ _ _ _  s ))))) (fun _ s => ((((((((((s.pull 9).pull 9).pull 9).pull 9).pull 9).pull 7).pull 6).pull 7).pull 9).pull 9))) rfl ?_; rintro _ _ ⟨rfl, rfl⟩; rw [roots_at (by omega), ofF_rt hw9 hN09 (by rw [hol9]; exact hN09)]; refine ⟨[_], rfl, ?_⟩
 refine Zn ?_
 refine Z9l ?_
 refine e_q 9 rfl (wn_none rfl) (op_assign (v := .int _ _) rfl) ?_
 refine Zq ?_
 refine Z7 ?_
 have hi0 : idxOf (runB (newB gg n3 xs.length n1) gg acts).t.nodes ((runB (newB gg n3 xs.length n1) gg acts).t.roots[0]'(by omega)) = some 0 := by rw [roots_at (by omega)]; exact idx_rt hw9 hN09
 refine cd_pull3 ?_
 refine cd_pull3 ?_
 refine cd_pull4 ?_
 refine Z7 ?_
 refine cd_drawe (M := [_, _, _]) mx [4, 8, 17, 23, 24, 26] ?_
 refine Z1e ?_
 refine e_q 1 rfl (wn_none rfl) (op_move (v := .slice _ _ _) rfl) ?_
 refine Zbl ?_
 refine Zbm ?_
 refine Z1y ?_
 refine ei_i rfl rfl (wn_none rfl) (os_pull1 (os_pull2 (os_call cb_44 rfl (fun w s => BKeepS_calls _ _ _ _ _ _ _ _ _ _ _ _ _ _ _ _ _ _ _ _ _ _  s hi0 hsk)))) rfl ?_; rintro _ _ ⟨qt42, qw42, rfl, rfl⟩; rw [prT_all hw9]; refine ⟨[_, _, _], rfl, ?_⟩
 refine Zc4 ?_
 refine et_split 58 rfl (fun hb19 => ?_) (fun hb19 => ?_)
 ·have hp19 := hb19
  (try simp only [bn] at hp19)
  exact absurd hb19 (by decide)
 have hp19 := hb19
 (try simp only [bn] at hp19)
 refine e_q 7 rfl (wn_some rfl rfl rfl hb19 rfl) (op_move (v := .pointer _) rfl) ?_
 refine e_q 9 rfl (wn_some rfl rfl rfl hb19 rfl) (op_lda (L := rootC _) 0 ag_24 rfl rfl (rootC_take' _) (by simp [rootC_len])) ?_
 refine Zn ?_
 refine ei_i rfl rfl (wn_some rfl rfl rfl hb19 rfl) (os_back (os_pull2 (os_pull2 (os_pull2 (os_call cb_38 rfl (fun w s => BHead_calls _ _ _ _ _ _ _ _ _ _ _ _ _ _ _ _ _ _ _ _  s (Nat.le_of_eq (ownE_len _ _ _)) (by rw [ownE_len]; exact hN09)))))) (fun _ s => s)) rfl ?_; rintro _ _ ⟨rfl, rfl⟩; refine ⟨[_, _, _], rfl, ?_⟩
 refine e_q 10 rfl (wn_some rfl rfl rfl hb19 rfl) (op_neroot _ _ rB_24 rfl rfl) ?_
 refine e_q 11 rfl (wn_none rfl) (op_pick_f (v := .bool _) rfl hb19 rfl) ?_
 refine e_q 12 rfl (wn_none rfl) (op_move (v := .bool _) rfl) ?_
 refine et_split 64 rfl (fun hb20 => ?_) (fun hb20 => ?_)
 ·have hp20 := hb20
  (try simp only [bn] at hp20)
  exact absurd hb20 (by simp)
 have hp20 := hb20
 (try simp only [bn] at hp20)
 refine e_q 13 rfl (wn_some rfl rfl rfl hb20 rfl) (op_move (v := .pointer _) rfl) ?_
 refine e_q 14 rfl (wn_some rfl rfl rfl hb20 rfl) (op_move (v := .slice _ _ _) rfl) ?_
 refine e_q 15 rfl (wn_some rfl rfl rfl hb20 rfl) (op_index 0 sB_37 rfl rfl rfl (rds_row 1 rfl rfl) rfl (by omega)) ?_
 refine e_q 16 rfl (wn_some rfl rfl rfl hb20 rfl) (op_ldaw (L := rootC _) ag_24 (rds_row 1 rfl rfl) rfl (by omega) rfl (rootC_ta _)) ?_
 refine e_q 18 rfl (wn_some rfl rfl rfl hb20 rfl) (op_move (v := .int _ _) rfl) ?_
 refine Z6f ?_
 refine ei_i rfl rfl (wn_some rfl rfl rfl hb20 rfl) (os_back (os_pull2 (os_pull2 (os_pull2 (os_call cb_37 rfl (fun w s => BWeight_calls _ _ _ _ _ _ _ _ _ _ _ _ _ _ _ _ _ _ _ _ _  s ))))) (fun _ s => s)) rfl ?_; rintro _ _ ⟨rfl, rfl⟩; rw [roots_at (by omega), ofF_rt hw9 hN09 (by rw [hol9]; exact hN09)]; refine ⟨[_, _, _], rfl, ?_⟩
 refine e_q 19 rfl (wn_some rfl rfl rfl hb20 rfl) (op_ne rfl rfl) ?_
 refine e_q 20 rfl (wn_none rfl) (op_pick_f (v := .bool _) rfl hb20 rfl) ?_
 refine Z6x ?_
 refine et_split 73 rfl (fun hb21 => ?_) (fun hb21 => ?_)
 ·have hp21 := hb21
  (try simp only [bn] at hp21)
  exact absurd hb21 (by simp)
 have hp21 := hb21
 (try simp only [bn] at hp21)
 refine e_q 22 rfl (wn_some rfl rfl rfl hb21 rfl) (op_move (v := .pointer _) rfl) ?_
 refine e_q 25 rfl (wn_some rfl rfl rfl hb21 rfl) (op_move (v := .slice _ _ _) rfl) ?_
 refine Z4x ?_
 refine ei_i rfl rfl (wn_some rfl rfl rfl hb21 rfl) (os_call cb_36 rfl (fun w s => BTree_calls _ _ _ _ _ _ _ _ _ _ _ _ _ _ _ _ _ _  s )) rfl ?_; rintro _ _ ⟨rfl, rfl⟩; refine ⟨[_, _, _], rfl, ?_⟩
 refine et_1 (i := 24) (by kernel_rfl) ?_
 refine ei_i rfl rfl (wn_some rfl rfl rfl hb21 rfl) (os_pull1 (os_call cb_20 rfl (fun w s => Roots_calls _ _  s ))) rfl ?_; rintro _ _ ⟨ao46, ac46, rfl, rfl⟩; refine ⟨[_, _, _, _], rfl, ?_⟩
 refine et_1 (i := 26) (by kernel_rfl) ?_
 refine ei_i rfl rfl (wn_some rfl rfl rfl hb21 rfl) (os_call cb_19 rfl (fun w s => Same_calls _ _ _ _ _ _  s (rds_row 0 rfl rfl) (rds_row 5 rfl rfl) (by omega))) rfl ?_; rintro _ _ ⟨rfl, rfl⟩; refine ⟨[_, _, _, _], rfl, ?_⟩
 refine e_q 27 rfl (wn_some rfl rfl rfl hb21 rfl) (op_not rfl) ?_
 refine e_q 28 rfl (wn_none rfl) (op_pick_f (v := .bool _) rfl hb21 rfl) ?_
 refine Zq ?_
 refine cd_cond rfl (fun hb22 => ?_) (fun hb22 => ?_)
 ·have hp22 := hb22
  (try simp only [bn] at hp22)
  exact absurd hb22 (by simp)
 have hp22 := hb22
 (try simp only [bn] at hp22)
 refine Z9 ?_
 refine Z0 ?_
 refine Za ?_
 refine Z4 ?_
 refine Zai ?_
 refine Za ?_
 refine Z4u ?_
 refine Zbn ?_
 refine oq (op_remn rfl rfl (by omega)) ?_
 refine Zbo ?_
 refine Zbp ?_
 refine Zbq ?_
 refine Z1n ?_; intro bx8
 refine Z3l ?_
 refine Z1 ?_
 have hx0 : u64N at_ % (runB (newB gg n3 xs.length n1) gg acts).t.roots.length < (runB (newB gg n3 xs.length n1) gg acts).t.roots.length := Nat.mod_lt _ (by omega)
 rw [roots_at hx0]
 generalize u64N at_ % (runB (newB gg n3 xs.length n1) gg acts).t.roots.length = x0 at hx0 ⊢
 have hxl0 : x0 < (runB (newB gg n3 xs.length n1) gg acts).t.nodes.length := by omega
 have hix := idx_rt hw9 hxl0
 have hlf := leaf_lt hw9 hol9
 have hbh : (runB (newB gg n3 xs.length n1) gg acts).t.below (rtA (runB (newB gg n3 xs.length n1) gg acts).t.nodes x0) (headW (runB (newB gg n3 xs.length n1) gg acts).t.nodes (ownE xs (effT (runB (newB gg n3 xs.length n1) gg acts).tb) (runB (newB gg n3 xs.length n1) gg acts).t.nodes)) = belI (runB (newB gg n3 xs.length n1) gg acts).t.nodes x0 ((leafN (runB (newB gg n3 xs.length n1) gg acts).t.nodes (oA (sumL (runB (newB gg n3 xs.length n1) gg acts).t.nodes (ownE xs (effT (runB (newB gg n3 xs.length n1) gg acts).tb) (runB (newB gg n3 xs.length n1) gg acts).t.nodes))) (ownE xs (effT (runB (newB gg n3 xs.length n1) gg acts).tb) (runB (newB gg n3 xs.length n1) gg acts).t.nodes).length 0 : Nat) : Int) := below_rt hw9 hix hlf
 have hple := prO_le (t := (runB (newB gg n3 xs.length n1) gg acts).t) x0 (ownE xs (effT (runB (newB gg n3 xs.length n1) gg acts).tb) (runB (newB gg n3 xs.length n1) gg acts).t.nodes)
 have hpos := prO_pos (t := (runB (newB gg n3 xs.length n1) gg acts).t) hxl0 (ownE xs (effT (runB (newB gg n3 xs.length n1) gg acts).tb) (runB (newB gg n3 xs.length n1) gg acts).t.nodes)
 rw [pr_ownE hw9 x0] at hple hpos
 have hwp := weight_pr hw9 hxl0 hol9 hxl0 belI_eq
 rw [pr_ownE hw9 x0] at hwp
 have hkh := fun hbb => keep_head hw9 hxl0 hol9 hbb
 rw [pr_ownE hw9 x0] at hkh
 have hpp : (prT (runB (newB gg n3 xs.length n1) gg acts).t x0).place (rtA (runB (newB gg n3 xs.length n1) gg acts).t.nodes x0) = 0 := by rw [place_pr hw9 hxl0, if_pos belI_eq, rk_self]; rfl
 refine Z52 ?_
 refine cd_draw (M := [_]) mx [1, 4] (by kernel_rfl) ?_
 refine Ze ?_
 refine Zbr ?_
 refine Z10 ?_
 refine Z9x ?_
 refine rg_i (wn_none rfl) (os_call cb_30 rfl (fun w s => Below_calls _ _ _ _  s )) rfl rfl ?_; rintro _ l ⟨rfl, rfl⟩; rw [hbh]; refine ⟨[_], rfl, ?_⟩
 refine Z2i ?_
 refine rg_nil_then1 ?_
 refine Zc ?_
 refine Z5e ?_
 refine ol_pull4 ?_
 refine Z8 ?_
 refine ol_pull4 ?_
 refine Zbs ?_
 refine Z53 ?_
 refine Z52 ?_
 refine cd_drawe (M := [_, _, _]) mx [2, 7, 16, 23, 25] ?_
 refine Z1e ?_
 refine Z7g ?_
 refine Z6b ?_
 refine Zbt ?_; intro qt51 qw51
 refine e_q 3 rfl (wn_none rfl) (op_eq rfl rfl) ?_
 refine Z5m ?_
 refine et_split 103 rfl (fun hb23 => ?_) (fun hb23 => ?_)
 ·have hp23 := hb23
  (try simp only [bn] at hp23)
  refine e_q 5 rfl (wn_some rfl rfl rfl hb23 rfl) (op_move (v := .pointer _) rfl) ?_
  refine e_q 6 rfl (wn_some rfl rfl rfl hb23 rfl) (op_lda (L := rootC _) 0 ag_24 rfl rfl (rootC_take' _) (by simp [rootC_len])) ?_
  refine e_q 8 rfl (wn_some rfl rfl rfl hb23 rfl) (op_move (v := .int _ _) rfl) ?_
  refine Zm ?_
  refine ei_i rfl rfl (wn_some rfl rfl rfl hb23 rfl) (os_back (os_pull2 (os_pull2 (os_pull2 (os_call cb_37 rfl (fun w s => BWeight_calls _ _ _ _ _ _ _ _ _ _ _ _ _ _ _ _ _ _ _ _ _  s ))))) (fun _ s => (((s.push 2).push 2).push 2))) rfl ?_; rintro _ _ ⟨rfl, rfl⟩; rw [hwp]; refine ⟨[_, _, _], rfl, ?_⟩
  refine e_q 9 rfl (wn_some rfl rfl rfl hb23 rfl) (op_eq rfl rfl) ?_
  refine e_q 10 rfl (wn_none rfl) (op_pick_t (v := .bool _) rfl hb23 rfl) ?_
  refine Zau ?_
  refine et_split 110 rfl (fun hb24 => ?_) (fun hb24 => ?_)
  ·have hp24 := hb24
   (try simp only [bn] at hp24)
   refine e_q 12 rfl (wn_some rfl rfl rfl hb24 rfl) (op_move (v := .bool _) rfl) ?_
   refine e_q 13 rfl (wn_some rfl rfl rfl hb24 rfl) (op_not rfl) ?_
   refine e_q 14 rfl (wn_some rfl rfl rfl hb24 rfl) (op_move (v := .bool _) rfl) ?_
   refine et_split 113 rfl (fun hb25 => ?_) (fun hb25 => ?_)
   ·have hp25 := hb25
    (try simp only [bn] at hp25)
    refine et_skip 15 (by kernel_rfl) rfl (by kernel_rfl) (wn_some rfl rfl rfl hb25 rfl) rfl ?_
    refine et_skip 17 (by kernel_rfl) rfl (by kernel_rfl) (wn_some rfl rfl rfl hb25 rfl) rfl ?_
    refine Z3r ?_
    refine ei_skip rfl (wn_some rfl rfl rfl hb25 rfl) rfl ?_
    refine et_skip 18 (by kernel_rfl) rfl (by kernel_rfl) (wn_some rfl rfl rfl hb25 rfl) rfl ?_
    refine e_q 19 rfl (wn_some rfl rfl rfl hb24 rfl) (op_pick_t (v := .bool _) rfl hb25 rfl) ?_
    refine e_q 20 rfl (wn_none rfl) (op_pick_t (v := .bool _) rfl hb24 rfl) ?_
    refine Zc5 ?_
    refine Zbu ?_
    refine Z4x ?_
    refine Zbv ?_
    refine et_1 (i := 25) (by kernel_rfl) ?_
    refine ei_i rfl rfl (wn_some rfl rfl rfl rfl rfl) (os_back (os_pull1 (os_call cb_31 rfl (fun w s => Place_calls _ _ _  s ))) (fun _ s => (s.push 1))) rfl ?_; rintro _ _ ⟨rfl, rfl⟩; rw [hpp]; refine ⟨[_, _, _], rfl, ?_⟩
    refine Zc0 ?_
    refine Z6m ?_
    refine Z1c ?_
    exact Z8r
   have hp25 := hb25
   (try simp only [bn] at hp25)
   have hbb : belI (runB (newB gg n3 xs.length n1) gg acts).t.nodes x0 ((leafN (runB (newB gg n3 xs.length n1) gg acts).t.nodes (oA (sumL (runB (newB gg n3 xs.length n1) gg acts).t.nodes (ownE xs (effT (runB (newB gg n3 xs.length n1) gg acts).tb) (runB (newB gg n3 xs.length n1) gg acts).t.nodes))) (ownE xs (effT (runB (newB gg n3 xs.length n1) gg acts).tb) (runB (newB gg n3 xs.length n1) gg acts).t.nodes).length 0 : Nat) : Int) = true := by simpa using hb25
   refine e_q 15 rfl (wn_some rfl rfl rfl hb25 rfl) (op_move (v := .pointer _) rfl) ?_
   refine e_q 17 rfl (wn_some rfl rfl rfl hb25 rfl) (op_lda (L := rootC _) 2 ag_24 rfl rfl (rootC_take' _) (by simp [rootC_len])) ?_
   refine Z3r ?_
   refine ei_i rfl rfl (wn_some rfl rfl rfl hb25 rfl) (os_back (os_pull2 (os_pull2 (os_pull2 (os_call cb_38 rfl (fun w s => BHead_calls _ _ _ _ _ _ _ _ _ _ _ _ _ _ _ _ _ _ _ _  s hple hpos))))) (fun _ s => (((s.push 2).push 2).push 2))) rfl ?_; rintro _ _ ⟨rfl, rfl⟩; rw [hkh hbb]; refine ⟨[_, _, _], rfl, ?_⟩
   refine e_q 18 rfl (wn_some rfl rfl rfl hb25 rfl) (op_eqroot _ _ rB_24 rfl rfl) ?_
   refine e_q 19 rfl (wn_some rfl rfl rfl hb24 rfl) (op_pick_f (v := .bool _) rfl hb25 rfl) ?_
   refine e_q 20 rfl (wn_none rfl) (op_pick_t (v := .bool _) rfl hb24 rfl) ?_
   refine Z6x ?_
   refine et_split 120 rfl (fun hb26 => ?_) (fun hb26 => ?_)
   ·have hp26 := hb26
    (try simp only [bn] at hp26)
    refine e_q 22 rfl (wn_some rfl rfl rfl hb26 rfl) (op_move (v := .pointer _) rfl) ?_
    refine e_q 24 rfl (wn_some rfl rfl rfl hb26 rfl) (op_lda (L := rootC _) 0 ag_24 rfl rfl (rootC_take' _) (by simp [rootC_len])) ?_
    refine Z4x ?_
    refine ei_i rfl rfl (wn_some rfl rfl rfl hb26 rfl) (os_call cb_36 rfl (fun w s => BTree_calls _ _ _ _ _ _ _ _ _ _ _ _ _ _ _ _ _ _  s )) rfl ?_; rintro _ _ ⟨rfl, rfl⟩; refine ⟨[_, _, _], rfl, ?_⟩
    refine et_1 (i := 25) (by kernel_rfl) ?_
    refine ei_i rfl rfl (wn_some rfl rfl rfl hb26 rfl) (os_back (os_pull1 (os_call cb_31 rfl (fun w s => Place_calls _ _ _  s ))) (fun _ s => (s.push 1))) rfl ?_; rintro _ _ ⟨rfl, rfl⟩; rw [hpp]; refine ⟨[_, _, _], rfl, ?_⟩
    refine e_q 26 rfl (wn_some rfl rfl rfl hb26 rfl) (op_eq rfl rfl) ?_
    refine e_q 27 rfl (wn_none rfl) (op_pick_t (v := .bool _) rfl hb26 rfl) ?_
    refine Z6m ?_
    refine Z1c ?_
    exact Z8r
   have hp26 := hb26
   (try simp only [bn] at hp26)
   exact absurd hb26 (by simp)
  have hp24 := hb24
  (try simp only [bn] at hp24)
  exact absurd hb24 (by simp)
 have hp23 := hb23
 (try simp only [bn] at hp23)
 exact absurd hb23 (by decide)
end Go.SL


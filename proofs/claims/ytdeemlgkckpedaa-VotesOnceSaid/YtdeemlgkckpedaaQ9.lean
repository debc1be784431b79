import Derived.Test.YtdeemlgkckpedaaQ8
set_option linter.unusedVariables false
set_option linter.unusedSimpArgs false
namespace Go.SL
open Go.Proofs

def stakeV (vs : List Val) (tb : TabS) (who : Int) (r : Root) : Int := match tb.vote who with | some v => if tb.counts who = true ∧ v.target = r then stk vs who.toNat else 0 | none => 0
theorem stakeV_no1 {vs : List Val} {tb : TabS} {who : Int} {r : Root} (h : (tb.vote who).isSome = false) : stakeV vs tb who r = 0 := by
 unfold stakeV; cases hv : tb.vote who with
 | none => rfl
 | some v => rw [hv] at h; cases h
theorem stakeV_no2 {vs : List Val} {tb : TabS} {who : Int} {r : Root} (h : tb.counts who = false) : stakeV vs tb who r = 0 := by
 unfold stakeV; cases hv : tb.vote who with
 | none => rfl
 | some v => dsimp only; rw [if_neg (fun q => by rw [h] at q; cases q.1)]
theorem stakeV_no3 {vs : List Val} {tb : TabS} {who : Int} {r : Root} (h : ((tb.vote who).getD Vote.zero).target ≠ r) : stakeV vs tb who r = 0 := by
 unfold stakeV; cases hv : tb.vote who with
 | none => rfl
 | some v => dsimp only; rw [hv] at h; rw [if_neg (fun q => h q.2)]
theorem stakeV_yes {vs : List Val} {tb : TabS} {who : Int} {r : Root} (h1 : (tb.vote who).isSome = true) (h2 : tb.counts who = true) (h3 : ((tb.vote who).getD Vote.zero).target = r) : stakeV vs tb who r = stk vs who.toNat := by
 unfold stakeV; cases hv : tb.vote who with
 | none => rw [hv] at h1; cases h1
 | some v => dsimp only; rw [hv] at h3; rw [if_pos ⟨h2, h3⟩]
theorem stakeV_share {vs : List Val} {tb : TabS} {w : Nat} {r : Root} : stakeV vs tb (w : Int) r = shareE vs (effT tb) r w := by
 unfold stakeV shareE effT
 cases hv : tb.vote (w : Int) with
 | none => dsimp only; split <;> simp
 | some v =>
  dsimp only
  by_cases hc : tb.counts (w : Int) = true
  ·have e : Option.map (fun x : Vote => x.target) (some v) = some v.target := rfl
   rw [if_pos hc, e]
   by_cases hr : v.target = r
   ·rw [if_pos ⟨hc, hr⟩, if_pos (by rw [hr]), Int.toNat_natCast]
   ·rw [if_neg (fun q => hr q.2), if_neg (fun q => hr (Option.some.inj q))]
  ·rw [if_neg (fun q => hc q.1), if_neg hc, if_neg (by simp)]
theorem counts_rg {tb : TabS} {who : Int} (h : tb.counts who = true) : 0 ≤ who ∧ who < tb.latest.length := TabS.isV_iff.1 (TabS.counts_true.1 h).1
theorem add_err {t : TreeS} {r p : Root} {slot : Int} (h : (t.add r p slot).1 ≠ 0) : (t.add r p slot).2 = t := by
 unfold TreeS.add at h ⊢
 repeat' split
 all_goals first | rfl | skip
 all_goals simp_all

set_option maxRecDepth 100000 in
set_option maxHeartbeats 1000000 in
theorem stake_calls {w0 w : World} {l : List HProp} (pb pt pw pv : Nat) (ao : Option Addr) (c : Nat) (xs : List Val) (n1 n2 n3 n4 n5 n6 n7 n8 n9 n10 n11 : Int) (tb : TabS) (who : Int) (r : Root) (hs : Sat w0 w ((Blk pb (.cells #[.slice ao xs.length c, .int .i64 n1, .int .i64 n2, .int .i64 n3, .int .i64 n4, .int .i64 n5, .int .i64 n6, .int .i64 n7, .int .i64 n8, .int .i64 n9, .int .i64 n10, .int .i64 n11, .pointer (some ⟨pt, 0, none⟩), .pointer (some ⟨pw, 0, none⟩), .pointer (some ⟨pv, 0, none⟩)] 131 (0, 0))) :: (TabObj pv tb) :: l)) (hn : tb.latest.length = xs.length) (hr : Rds w0 l encVal ao xs) :
  Calls Try.prog 73 #[.pointer (some ⟨pb, 0, none⟩), .int .i64 who, .agg (rootC r).toArray] w (Ret w0 fun v l' => v = .int .i64 (stakeV xs tb who r) ∧ l' = Blk pb (.cells #[.slice ao xs.length c, .int .i64 n1, .int .i64 n2, .int .i64 n3, .int .i64 n4, .int .i64 n5, .int .i64 n6, .int .i64 n7, .int .i64 n8, .int .i64 n9, .int .i64 n10, .int .i64 n11, .pointer (some ⟨pt, 0, none⟩), .pointer (some ⟨pw, 0, none⟩), .pointer (some ⟨pv, 0, none⟩)] 131 (0, 0)) :: TabObj pv tb :: l) := by
 refine calls_enter Try.func73 rfl rfl rfl hs ?_
 refine Zm ?_; intro bx1
 refine Zb ?_
 refine Zt ?_
 refine oq (op_field fld_131_3 rfl) ?_
 refine oq (op_ld 1 sc_79 rfl rfl rfl) ?_
 refine Z4 ?_
 refine ol_pull2 ?_
 refine oi (os_call cb_41 rfl (fun w s => TVote_calls _ _ _  s )) ?_; rintro _ _ ⟨rfl, rfl⟩
 refine Z46 ?_
 refine Z8e ?_; intro bx2
 refine Z69 ?_
 refine Zd ?_
 refine Z3d ?_
 refine Z6 ?_
 refine ol_split 20 rfl (fun hb1 => ?_) (fun hb1 => ?_)
 ·have hp1 := hb1
  (try simp only [bn] at hp1)
  have hs1 : (tb.vote who).isSome = false := by simpa using hb1
  refine ol_skip (wn_some rfl rfl rfl hb1 rfl) rfl ?_
  refine ol_skip (wn_some rfl rfl rfl hb1 rfl) rfl ?_
  refine ol_skip (wn_some rfl rfl rfl hb1 rfl) rfl ?_
  refine ol_skip (wn_some rfl rfl rfl hb1 rfl) rfl ?_
  refine ol_skip (wn_some rfl rfl rfl hb1 rfl) rfl ?_
  refine ol_skip (wn_some rfl rfl rfl hb1 rfl) rfl ?_
  refine ol_skip (wn_some rfl rfl rfl hb1 rfl) rfl ?_
  refine oq (op_pick_t (v := .bool _) rfl hb1 rfl) ?_
  refine Z5v ?_
  refine Z4c ?_
  refine Z4c ?_
  refine Z5d ?_
  refine Z3e ?_
  exact px_ret1 rfl (v := .int _ _) rfl (fun _ s => (((s.del 2).del 0).pull 1)) ⟨congrArg (Value.int .i64) ((stakeV_no1 hs1).symm), rfl⟩
 have hp1 := hb1
 (try simp only [bn] at hp1)
 have hs1 : (tb.vote who).isSome = true := by simpa using hb1
 refine ol_q (wn_some rfl rfl rfl hb1 rfl) (op_move (v := .pointer _) rfl) rfl ?_
 refine ol_q (wn_some rfl rfl rfl hb1 rfl) (op_nilck rfl) rfl ?_
 refine ol_q (wn_some rfl rfl rfl hb1 rfl) (op_field fld_131_3 rfl) rfl ?_
 refine ol_q (wn_some rfl rfl rfl hb1 rfl) (op_ld 3 sc_79 rfl rfl rfl) rfl ?_
 refine ol_q (wn_some rfl rfl rfl hb1 rfl) (op_move (v := .int _ _) rfl) rfl ?_
 refine Za ?_
 refine ol_i (wn_some rfl rfl rfl hb1 rfl) (os_call cb_40 rfl (fun w s => Counts_calls _ _ _  s )) rfl ?_; rintro _ _ ⟨rfl, rfl⟩
 refine ol_q (wn_some rfl rfl rfl hb1 rfl) (op_not rfl) rfl ?_
 refine oq (op_pick_f (v := .bool _) rfl hb1 rfl) ?_
 refine Z6 ?_
 refine ol_split 29 rfl (fun hb2 => ?_) (fun hb2 => ?_)
 ·have hp2 := hb2
  (try simp only [bn] at hp2)
  have hs2 : tb.counts who = false := by simpa using hb2
  refine ol_skip (wn_some rfl rfl rfl hb2 rfl) rfl ?_
  refine ol_skip (wn_some rfl rfl rfl hb2 rfl) rfl ?_
  refine ol_skip (wn_some rfl rfl rfl hb2 rfl) rfl ?_
  refine ol_skip (wn_some rfl rfl rfl hb2 rfl) rfl ?_
  refine oq (op_pick_t (v := .bool _) rfl hb2 rfl) ?_
  refine Z3e ?_
  exact px_ret1 rfl (v := .int _ _) rfl (fun _ s => (((s.del 2).del 1).pull 1)) ⟨congrArg (Value.int .i64) ((stakeV_no2 hs2).symm), rfl⟩
 have hp2 := hb2
 (try simp only [bn] at hp2)
 have hs2 : tb.counts who = true := by simpa using hb2
 have hrg := counts_rg hs2
 refine ol_q (wn_some rfl rfl rfl hb2 rfl) (op_field fld_84_2 rfl) rfl ?_
 refine ol_q (wn_some rfl rfl rfl hb2 rfl) (op_lda (L := rootC _) 1 ag_24 rfl rfl (voteC_af2 _) (by simp [voteC_len])) rfl ?_
 refine ol_q (wn_some rfl rfl rfl hb2 rfl) (op_lda (L := rootC _) 2 ag_24 rfl rfl (rootC_take' _) (by simp [rootC_len])) rfl ?_
 refine ol_q (wn_some rfl rfl rfl hb2 rfl) (op_neroot _ _ rB_24 rfl rfl) rfl ?_
 refine oq (op_pick_f (v := .bool _) rfl hb2 rfl) ?_
 refine Z2 ?_
 refine cd_cond rfl (fun hb3 => ?_) (fun hb3 => ?_)
 ·have hp3 := hb3
  (try simp only [bn] at hp3)
  have hs3 : ((tb.vote who).getD Vote.zero).target ≠ r := by simpa using hb3
  refine Z1x ?_
  exact px_ret1 rfl (v := .int _ _) rfl (fun _ s => (((s.del 2).del 1).pull 1)) ⟨congrArg (Value.int .i64) ((stakeV_no3 hs3).symm), rfl⟩
 have hp3 := hb3
 (try simp only [bn] at hp3)
 have hs3 : ((tb.vote who).getD Vote.zero).target = r := by simpa using hb3
 refine Zn ?_
 refine Zt ?_
 refine oq (op_field fld_131_0 rfl) ?_
 refine Z36 ?_
 refine oq (op_ld 3 sc_63 rfl rfl rfl) ?_
 refine Z4 ?_
 refine oq (op_index who.toNat sB_63 rfl rfl (by omega) ((((hr.cons _).cons _).cons _).cons _) rfl (by omega)) ?_
 refine oq (op_fielde fld_78_0 rfl ((((hr.cons _).cons _).cons _).cons _) (by omega)) ?_
 refine oq (op_ldf 0 sc_3 ((((hr.cons _).cons _).cons _).cons _) rfl (by omega) rfl (valC_l0 _)) ?_
 refine Zw ?_
 exact px_ret1 rfl (v := .int _ _) rfl (fun _ s => (((s.del 2).del 1).pull 1)) ⟨congrArg (Value.int .i64) (((stakeV_yes hs1 hs2 hs3).trans (stk_get (by omega))).symm), rfl⟩

set_option maxRecDepth 100000 in
set_option maxHeartbeats 1000000 in
theorem all_calls {w0 w : World} {l : List HProp} (pb pt pw pv : Nat) (ao : Option Addr) (c : Nat) (xs : List Val) (n1 n2 n3 n4 n5 n6 n7 n8 n9 n10 n11 : Int) (tb : TabS) (r : Root) (hs : Sat w0 w ((Blk pb (.cells #[.slice ao xs.length c, .int .i64 n1, .int .i64 n2, .int .i64 n3, .int .i64 n4, .int .i64 n5, .int .i64 n6, .int .i64 n7, .int .i64 n8, .int .i64 n9, .int .i64 n10, .int .i64 n11, .pointer (some ⟨pt, 0, none⟩), .pointer (some ⟨pw, 0, none⟩), .pointer (some ⟨pv, 0, none⟩)] 131 (0, 0))) :: (TabObj pv tb) :: l)) (hn : tb.latest.length = xs.length) (hsk : StkOK xs) (hr : Rds w0 l encVal ao xs) :
  Calls Try.prog 88 #[.pointer (some ⟨pb, 0, none⟩), .agg (rootC r).toArray] w (Ret w0 fun v l' => v = .int .i64 (allE xs (effT tb) r) ∧ l' = Blk pb (.cells #[.slice ao xs.length c, .int .i64 n1, .int .i64 n2, .int .i64 n3, .int .i64 n4, .int .i64 n5, .int .i64 n6, .int .i64 n7, .int .i64 n8, .int .i64 n9, .int .i64 n10, .int .i64 n11, .pointer (some ⟨pt, 0, none⟩), .pointer (some ⟨pw, 0, none⟩), .pointer (some ⟨pv, 0, none⟩)] 131 (0, 0)) :: TabObj pv tb :: l) := by
 have htw := hs.drop.tabWF
 have hn1 := htw.n1
 refine calls_enter Try.func88 rfl rfl rfl hs ?_
 refine Zm ?_; intro bx1
 refine Zb ?_
 refine Z1 ?_
 refine Z5u ?_
 refine Zt ?_
 refine oq (op_field fld_131_0 rfl) ?_
 refine Z36 ?_
 refine oq (op_ld 1 sc_63 rfl rfl rfl) ?_
 refine Z3m ?_
 refine Z1f ?_
 refine cd_loop2 (α := Nat) [(5, 6), (13, 22)] (fun x => [(5, .int .i64 (sg (shareE xs (effT tb) r) x)), (13, .int .i64 (x : Int))]) (fun _ => _) (fun x => x ≤ xs.length) (fun x => xs.length - x) 0 (Nat.zero_le _) ⟨rfl, rfl, trivial⟩ (fun _ s => s) ?_
 rintro j hj f; (try dsimp only at hj ⊢)
 refine Zy ?_
 refine cd_cond rfl (fun hb1 => ?_) (fun hb1 => ?_)
 ·have hp1 := hb1
  (try simp only [bn] at hp1)
  have hj1 : j < xs.length := by omega
  have h1 := sg_nonneg (f := shareE xs (effT tb) r) (m := j) (fun q _ => share_nn hsk)
  have h2 := sg_mono (f := shareE xs (effT tb) r) (show j + 1 ≤ xs.length by omega) (fun q _ => share_nn hsk)
  have h3 := all_le (E := effT tb) (r := r) hsk
  have h4 := hsk.tt
  have h5 := share_nn (E := effT tb) (r := r) (w := j) hsk
  have h6 := sg_succ (f := shareE xs (effT tb) r) (m := j)
  unfold allE at h3
  refine Z2i ?_
  refine Zb ?_
  refine Z16 ?_
  refine Z4 ?_
  refine Z29 ?_
  refine Z4 ?_
  refine Z2b ?_
  refine ol_pull2 ?_
  refine ol_pull2 ?_
  refine oi (os_call cb_73 rfl (fun w s => stake_calls _ _ _ _ _ _ _ _ _ _ _ _ _ _ _ _ _ _ _ _ _  s (by assumption) (hr.cons _))) ?_; rintro _ _ ⟨rfl, rfl⟩; rw [stakeV_share]
  refine Z8r ?_
  refine Z4l ?_
  refine px_loop2 (j + 1) (by omega) (by (try dsimp only); omega) ⟨congrArg (Value.int .i64) sg_succ.symm, congrArg (Value.int .i64) (by simp), trivial⟩ ?_ (fun _ s => (((s.pull 1).pull 1).pull 2))
  exact Z0
 have hp1 := hb1
 (try simp only [bn] at hp1)
 have hje : j = xs.length := by omega
 refine Z1a ?_
 refine Z2x ?_
 exact px_ret1 rfl (v := .int _ _) rfl (fun _ s => (s.del 0)) ⟨by rw [hje]; rfl, rfl⟩

set_option maxRecDepth 100000 in
set_option maxHeartbeats 1000000 in
theorem put_calls {w0 w : World} {l : List HProp} (pb pt pw pv : Nat) (ao : Option Addr) (c : Nat) (xs : List Val) (n1 n2 n3 n4 n5 n6 n7 n8 n9 n10 n11 : Int) (t : TreeS) (o : List Int) (r : Root) (k : Int) (hs : Sat w0 w ((Blk pb (.cells #[.slice ao xs.length c, .int .i64 n1, .int .i64 n2, .int .i64 n3, .int .i64 n4, .int .i64 n5, .int .i64 n6, .int .i64 n7, .int .i64 n8, .int .i64 n9, .int .i64 n10, .int .i64 n11, .pointer (some ⟨pt, 0, none⟩), .pointer (some ⟨pw, 0, none⟩), .pointer (some ⟨pv, 0, none⟩)] 131 (0, 0))) :: (TreeObj pt t) :: (WObj pw pt t.nodes o) :: l)) (h1 : o.length ≤ t.nodes.length) (hok : OwnOK o) :
  Calls Try.prog 75 #[.pointer (some ⟨pb, 0, none⟩), .agg (rootC r).toArray, .int .i64 k] w (Ret w0 fun v l' => v = .tuple #[] ∧ l' = Blk pb (.cells #[.slice ao xs.length c, .int .i64 n1, .int .i64 n2, .int .i64 n3, .int .i64 n4, .int .i64 n5, .int .i64 n6, .int .i64 n7, .int .i64 n8, .int .i64 n9, .int .i64 n10, .int .i64 n11, .pointer (some ⟨pt, 0, none⟩), .pointer (some ⟨pw, 0, none⟩), .pointer (some ⟨pv, 0, none⟩)] 131 (0, 0)) :: TreeObj pt t :: WObj pw pt t.nodes (putO t o r k) :: l) := by
 have hw := hs.drop.treeWF
 refine calls_enter Try.func75 rfl rfl rfl hs ?_
 refine Zm ?_; intro bx1
 refine Zs ?_
 refine Z7t ?_
 refine Z5 ?_
 refine Z8h ?_
 refine Z62 ?_
 refine Z15 ?_
 refine rg_i (wn_none rfl) (os_back (os_pull2 (os_call cb_31 rfl (fun w s => Place_calls _ _ _  s ))) (fun _ s => ((((s.pull 3).pull 1).pull 3).pull 3))) rfl rfl ?_; rintro _ _ ⟨rfl, rfl⟩; refine ⟨[], rfl, ?_⟩
 refine rg_q (wn_none rfl) (op_ge rfl rfl) rfl rfl ?_
 refine Z17 ?_
 refine cd_cond rfl (fun hb1 => ?_) (fun hb1 => ?_)
 ·have hp1 := hb1
  (try simp only [bn] at hp1)
  have hpo : (applyO t.nodes o [⟨r, k⟩]).2 = putO t o r k := by unfold putO; rw [if_neg (by omega)]
  refine cd_pull2 ?_
  refine cd_pull3 ?_
  refine cd_draw (M := [_, _]) mx [7, 8] (by kernel_rfl) ?_
  refine Z5 ?_
  refine Z8i ?_
  refine Z8j ?_
  refine Z15 ?_
  refine Zg ?_
  refine rg_q (wn_none rfl) (op_build (L := deltaC _) (vs := [(0, .agg (rootC _).toArray), (1, .int _ _)]) bB_102 rfl ⟨⟨by simp [Value.cells, rootC_len], by rw [deltaC_len]; rfl⟩, ⟨rfl, by rw [deltaC_len]; rfl⟩, trivial⟩ ((deltaC_b0 _ _ _).trans ((deltaC_b1 _ _ _).trans rfl))) rfl rfl ?_
  refine rg_i (wn_none rfl) (os_bslice (E := encDelta) [_] (ys := [_]) sB_97 zv_102 rfl rfl rfl rfl (by decide)) rfl rfl ?_; rintro _ _ ⟨ao1, rfl, rfl⟩; refine ⟨[_, _, _], rfl, ?_⟩
  refine rg_i (wn_none rfl) (os_pull1 (os_pull2 (os_call cb_52 rfl (fun w s => Apply_calls _ _ _ _ _ _ _  s h1 hok (rds_row 0 rfl rfl) (by show 1 ≤ 1000; decide))))) rfl rfl ?_; rintro _ _ ⟨rfl, rfl⟩; rw [hpo]; refine ⟨[_, _, _], rfl, ?_⟩
  refine rg_nil3 ?_
  exact px_end0 rfl (fun _ s => (((((s.del 3).del 2).pull 1).pull 1).pull 2)) ⟨rfl, rfl⟩
 have hp1 := hb1
 (try simp only [bn] at hp1)
 have hpo : putO t o r k = o := by unfold putO; rw [if_pos (by omega)]
 rw [hpo]
 refine cd_skip ?_
 exact px_end0 rfl (fun _ s => (s.del 0)) ⟨rfl, rfl⟩
end Go.SL

set_option linter.unusedVariables false
set_option linter.unusedSimpArgs false
namespace Go.SL
open Go.Proofs

theorem wobj_add {pw pt : Nat} {t : TreeS} (hw : t.WF) {o : List Int} (h : o.length ≤ t.nodes.length) (r q : Root) (slot : Int) : WObj pw pt t.nodes o = WObj pw pt (t.add r q slot).2.nodes o := by
 show WRaw _ _ _ (sumL _ _) _ _ = WRaw _ _ _ (sumL _ _) _ _
 rw [sumL_add hw h, bestL_add (by rw [sumL_len]; exact h), leafL_add (by rw [sumL_len]; exact h)]
theorem stakeV_had {vs : List Val} {tb : TabS} {who : Int} : stakeV vs tb who ((tb.vote who).getD Vote.zero).target = if tb.counts who = true ∧ (tb.vote who).isSome = true then stk vs who.toNat else 0 := by
 unfold stakeV
 cases hv : tb.vote who with
 | none => dsimp only; rw [if_neg (fun q => by cases q.2)]
 | some v =>
  dsimp only [Option.getD_some]
  by_cases hc : tb.counts who = true
  ·rw [if_pos ⟨hc, rfl⟩, if_pos ⟨hc, rfl⟩]
  ·rw [if_neg (fun q => hc q.1), if_neg (fun q => hc q.1)]
theorem had_rg {vs : List Val} (hs : StkOK vs) {tb : TabS} (hn : tb.latest.length = vs.length) {who : Int} {p : Prop} [Decidable p] (hp : p → tb.counts who = true) : 0 ≤ (if p then stk vs who.toNat else 0) ∧ (if p then stk vs who.toNat else 0) < 4611686018427387904 := by
 by_cases h : p
 ·rw [if_pos h]; have := counts_rg (hp h); exact stk_lt hs (by omega)
 ·rw [if_neg h]; decide
theorem stakeV_new {vs : List Val} {tb : TabS} (hb : tb.WF) {v : Vote} (h : (tb.take v).1 = 0) : stakeV vs (tb.take v).2 v.who v.target = stk vs v.who.toNat := by
 obtain ⟨h1, h2, h3, h4⟩ := TabS.once tb v hb
 obtain ⟨e1, _⟩ := h3 h
 have hc : tb.counts v.who = true := by
  rcases take_eff v hb with ⟨_, _, q, _⟩ | ⟨q, _⟩ | ⟨q, _⟩
  ·exact q
  ·rw [h] at q; cases q
  ·exact absurd h q
 have hc2 : (tb.take v).2.counts v.who = true := by
  cases q : (tb.take v).2.counts v.who
  ·have := h2.2 ⟨hc, q⟩; rw [h] at this; cases this
  ·rfl
 exact stakeV_yes (by rw [e1]; rfl) hc2 (by rw [e1]; rfl)
theorem unk_none {t : TreeS} {v : Vote} (h : idxOf t.nodes v.target = none) : unkB t v = true := by unfold unkB; rw [h]
theorem unk_some {t : TreeS} {v : Vote} {j : Nat} (h : idxOf t.nodes v.target = some j) : unkB t v = decide (v.slot < slA t.nodes j) := by unfold unkB; rw [h]
theorem btake_unk {t : TreeS} {tb : TabS} {v : Vote} (h : unkB t v = true) : BookS.take ⟨t, tb⟩ v = (6, tb) := if_pos h
theorem btake_yes {t : TreeS} {tb : TabS} {v : Vote} (h : unkB t v = false) : BookS.take ⟨t, tb⟩ v = tb.take v := if_neg (by rw [h]; simp)

set_option maxRecDepth 100000 in
set_option maxHeartbeats 1000000 in
theorem BAdd_calls {w0 w : World} {l : List HProp} (pb pt pw pv : Nat) (ao : Option Addr) (c : Nat) (xs : List Val) (n1 n2 n3 n4 n5 n6 n7 n8 n9 n10 n11 : Int) (t : TreeS) (tb : TabS) (r q : Root) (slot : Int) (hs : Sat w0 w ((Blk pb (.cells #[.slice ao xs.length c, .int .i64 n1, .int .i64 n2, .int .i64 n3, .int .i64 n4, .int .i64 n5, .int .i64 n6, .int .i64 n7, .int .i64 n8, .int .i64 n9, .int .i64 n10, .int .i64 n11, .pointer (some ⟨pt, 0, none⟩), .pointer (some ⟨pw, 0, none⟩), .pointer (some ⟨pv, 0, none⟩)] 131 (0, 0))) :: (TreeObj pt t) :: (WObj pw pt t.nodes (ownE xs (effT tb) t.nodes)) :: (TabObj pv tb) :: l)) (hn : tb.latest.length = xs.length) (hsk : StkOK xs) (hr : Rds w0 l encVal ao xs) :
  Calls Try.prog 64 #[.pointer (some ⟨pb, 0, none⟩), .agg (rootC r).toArray, .agg (rootC q).toArray, .int .i64 slot] w (Ret w0 fun v l' => v = .int .i64 (t.add r q slot).1 ∧ l' = Blk pb (.cells #[.slice ao xs.length c, .int .i64 n1, .int .i64 n2, .int .i64 n3, .int .i64 n4, .int .i64 n5, .int .i64 n6, .int .i64 n7, .int .i64 n8, .int .i64 n9, .int .i64 n10, .int .i64 n11, .pointer (some ⟨pt, 0, none⟩), .pointer (some ⟨pw, 0, none⟩), .pointer (some ⟨pv, 0, none⟩)] 131 (0, 0)) :: TreeObj pt (t.add r q slot).2 :: WObj pw pt (t.add r q slot).2.nodes (ownE xs (effT tb) (t.add r q slot).2.nodes) :: TabObj pv tb :: l) := by
 have hw := hs.drop.treeWF
 have hw2 := hw.add r q slot
 obtain ⟨_, yy, hyy⟩ := t.add_most r q slot
 have hll : t.nodes.length ≤ (t.add r q slot).2.nodes.length := by rw [hyy, List.length_append]; omega
 refine calls_enter Try.func64 rfl rfl rfl hs ?_
 refine Zm ?_; intro bx1
 refine Z2c ?_; intro bx2
 refine Z2g ?_
 refine Z5a ?_
 refine Z44 ?_
 refine Zf ?_
 refine cd_pull3 ?_
 refine Z7 ?_
 refine cd_draw (M := [_]) mx [7] (by kernel_rfl) ?_
 refine Z5 ?_
 refine Z8h ?_
 refine rg_q (wn_none rfl) (op_ld 2 sc_26 rfl rfl rfl) rfl rfl ?_
 refine rg_q (wn_none rfl) (op_lda (L := rootC _) 1 ag_24 rfl rfl (rootC_take' _) (by simp [rootC_len])) rfl rfl ?_
 refine Z15 ?_
 refine Zg ?_
 refine rg_i (wn_none rfl) (os_call cb_47 rfl (fun w s => Add_calls _ _ _ _ _  s )) rfl rfl ?_; rintro _ _ ⟨rfl, rfl⟩; refine ⟨[_], rfl, ?_⟩
 refine Z3b ?_
 refine Ze ?_
 refine Z4n ?_
 refine cd_cond rfl (fun hb1 => ?_) (fun hb1 => ?_)
 ·have hp1 := hb1
  (try simp only [bn] at hp1)
  have hne : (t.add r q slot).1 ≠ 0 := by simpa using hb1
  have hte := add_err hne
  rw [hte]
  refine Z2x ?_
  refine Z13 ?_
  exact px_ret1 rfl (v := .int _ _) rfl (fun _ s => ((((((s.del 2).del 1).pull 3).pull 3).pull 2).pull 3)) ⟨rfl, rfl⟩
 have hp1 := hb1
 (try simp only [bn] at hp1)
 have h0 : (t.add r q slot).1 = 0 := by simpa using hb1
 refine Zn ?_
 rw [wobj_add hw (Nat.le_of_eq (ownE_len _ _ _)) r q slot]
 refine cd_pull4 ?_
 refine Z7 ?_
 refine cd_drawe (M := [_, _]) mx [7, 9, 10] ?_
 refine Z2z ?_
 refine Z52 ?_
 refine e_q 2 rfl (wn_none rfl) (op_field fld_131_2 rfl) ?_
 refine e_q 3 rfl (wn_none rfl) (op_ld 2 sc_27 rfl rfl rfl) ?_
 refine e_q 4 rfl (wn_none rfl) (op_lda (L := rootC _) 1 ag_24 rfl rfl (rootC_take' _) (by simp [rootC_len])) ?_
 refine e_q 5 rfl (wn_none rfl) (op_move (v := .pointer _) rfl) ?_
 refine e_q 6 rfl (wn_none rfl) (op_lda (L := rootC _) 1 ag_24 rfl rfl (rootC_take' _) (by simp [rootC_len])) ?_
 refine Z1c ?_
 refine ei_i rfl rfl (wn_none rfl) (os_back (os_pull5 (os_pull5 (os_call cb_88 rfl (fun w s => all_calls _ _ _ _ _ _ _ _ _ _ _ _ _ _ _ _ _ _ _ _  s (by assumption) (by assumption) ((((hr.cons _).cons _).cons _).cons _))))) (fun _ s => ((((((s.pull 1).pull 1).pull 5).pull 5).pull 5).pull 5))) rfl ?_; rintro _ _ ⟨rfl, rfl⟩; refine ⟨[_, _], rfl, ?_⟩
 refine e_q 8 rfl (wn_none rfl) (op_build (L := deltaC _) (vs := [(0, .agg (rootC _).toArray), (1, .int _ _)]) bB_102 rfl ⟨⟨by simp [Value.cells, rootC_len], by rw [deltaC_len]; rfl⟩, ⟨rfl, by rw [deltaC_len]; rfl⟩, trivial⟩ ((deltaC_b0 _ _ _).trans ((deltaC_b1 _ _ _).trans rfl))) ?_
 refine Z23 ?_
 refine ei_i rfl rfl (wn_none rfl) (os_bslice (E := encDelta) [_] (ys := [_]) sB_97 zv_102 rfl rfl rfl rfl (by decide)) rfl ?_; rintro _ _ ⟨ao1, rfl, rfl⟩; refine ⟨[_, _, _], rfl, ?_⟩
 refine Z1e ?_
 refine ei_i rfl rfl (wn_none rfl) (os_pull1 (os_pull2 (os_call cb_52 rfl (fun w s => Apply_calls _ _ _ _ _ _ _  s (by rw [ownE_len]; exact hll) (ownE_ok hsk hw) (rds_row 0 rfl rfl) (by show 1 ≤ 1000; decide))))) rfl ?_; rintro _ _ ⟨rfl, rfl⟩; rw [add_ownE hsk hw h0]; (try dsimp only); refine ⟨[_, _, _], rfl, ?_⟩
 refine e_q 11 rfl (wn_none rfl) (op_assign (v := .int _ _) rfl) ?_
 refine Z1t ?_
 exact px_ret1 rfl (v := .int _ _) rfl (fun _ s => (((((((s.del 4).del 3).del 2).pull 3).pull 2).pull 2).pull 3)) ⟨by rw [h0], rfl⟩

set_option maxRecDepth 100000 in
set_option maxHeartbeats 1000000 in
theorem BTake_calls {w0 w : World} {l : List HProp} (pb pt pw pv : Nat) (ao : Option Addr) (c : Nat) (xs : List Val) (n1 n2 n3 n4 n5 n6 n7 n8 n9 n10 n11 : Int) (t : TreeS) (tb : TabS) (u : Vote) (hs : Sat w0 w ((Blk pb (.cells #[.slice ao xs.length c, .int .i64 n1, .int .i64 n2, .int .i64 n3, .int .i64 n4, .int .i64 n5, .int .i64 n6, .int .i64 n7, .int .i64 n8, .int .i64 n9, .int .i64 n10, .int .i64 n11, .pointer (some ⟨pt, 0, none⟩), .pointer (some ⟨pw, 0, none⟩), .pointer (some ⟨pv, 0, none⟩)] 131 (0, 0))) :: (TreeObj pt t) :: (WObj pw pt t.nodes (ownE xs (effT tb) t.nodes)) :: (TabObj pv tb) :: l)) (hn : tb.latest.length = xs.length) (hsk : StkOK xs) (hr : Rds w0 l encVal ao xs) :
  Calls Try.prog 43 #[.pointer (some ⟨pb, 0, none⟩), .agg (voteC u).toArray] w (Ret w0 fun v l' => v = .int .i64 (BookS.take ⟨t, tb⟩ u).1 ∧ l' = Blk pb (.cells #[.slice ao xs.length c, .int .i64 n1, .int .i64 n2, .int .i64 n3, .int .i64 n4, .int .i64 n5, .int .i64 n6, .int .i64 n7, .int .i64 n8, .int .i64 n9, .int .i64 n10, .int .i64 n11, .pointer (some ⟨pt, 0, none⟩), .pointer (some ⟨pw, 0, none⟩), .pointer (some ⟨pv, 0, none⟩)] 131 (0, 0)) :: TreeObj pt t :: WObj pw pt t.nodes (ownE xs (effT (BookS.take ⟨t, tb⟩ u).2) t.nodes) :: TabObj pv (BookS.take ⟨t, tb⟩ u).2 :: l) := by
 have hw := hs.drop.treeWF
 have htw := ((hs.pull 3).tabWF)
 obtain ⟨had, hhad⟩ : ∃ h : Int, h = if tb.counts u.who = true ∧ (tb.vote u.who).isSome = true then stk xs u.who.toNat else 0 := ⟨_, rfl⟩
 have hs7 : stakeV xs tb u.who ((tb.vote u.who).getD Vote.zero).target = had := by rw [hhad]; exact stakeV_had
 have hrg := had_rg hsk hn (who := u.who) (p := tb.counts u.who = true ∧ (tb.vote u.who).isSome = true) (fun q => q.1)
 rw [← hhad] at hrg
 have htp := take_puts hsk hw htw hn u (old := ((tb.vote u.who).getD Vote.zero).target) (had := had) rfl hhad
 have hn2 : (tb.take u).2.latest.length = xs.length := by rw [(TabS.take_slots tb u).2]; exact hn
 refine calls_enter Try.func43 rfl rfl rfl hs ?_
 refine Zm ?_; intro bx1
 refine Z2g ?_
 refine Z5a ?_
 refine Z2h ?_
 rcases hix : idxOf t.nodes u.target with _ | j
 ·
  have hna : t.node (t.place u.target) = none := by unfold TreeS.place; rw [hix]; rfl
  have hpj : t.place u.target = -1 := by unfold TreeS.place; rw [hix]
  refine Z7 ?_
  refine cd_drawe (M := []) mx [10, 11, 15, 16] ?_
  refine Z2z ?_
  refine Z52 ?_
  refine e_q 2 rfl (wn_none rfl) (op_field fld_131_1 rfl) ?_
  refine e_q 3 rfl (wn_none rfl) (op_ld 1 sc_26 rfl rfl rfl) ?_
  refine Z9b ?_
  refine e_q 6 rfl (wn_none rfl) (op_field fld_131_1 rfl) ?_
  refine e_q 7 rfl (wn_none rfl) (op_ld 1 sc_26 rfl rfl rfl) ?_
  refine e_q 8 rfl (wn_none rfl) (op_field fld_84_2 rfl) ?_
  refine e_q 9 rfl (wn_none rfl) (op_lda (L := rootC _) 0 ag_24 rfl rfl (voteC_af2 _) (by simp [voteC_len])) ?_
  refine et_2 (i1 := 10) (i2 := 15) (by kernel_rfl) ?_ ?_
  ·
   refine Z9o ?_
   refine et_2 (i1 := 11) (i2 := 15) (by kernel_rfl) ?_ ?_
   ·
    refine ei_i rfl rfl (wn_none rfl) (os_back (os_pull2 (os_call cb_24 rfl (fun w s => Node_calls _ _ _  s ))) (fun _ s => (((((s.pull 4).pull 4).pull 2).pull 4).pull 4))) rfl ?_; rintro _ _ ⟨rfl, rfl⟩; rw [hna]; refine ⟨[], rfl, ?_⟩
    refine Z6o ?_
    refine Z6p ?_
    refine Z6q ?_
    refine Z53 ?_
    refine Z6r ?_; intro bx2
    refine Z5h ?_
    refine Z6s ?_
    refine Z6t ?_
    refine Z1r ?_
    refine Z3d ?_
    refine Z6 ?_
    refine ol_split 30 rfl (fun hb1 => ?_) (fun hb1 => ?_)
    ·have hp1 := hb1
     (try simp only [bn] at hp1)
     have hunk := unk_none hix
     refine ol_skip (wn_some rfl rfl rfl hb1 rfl) rfl ?_
     refine ol_skip (wn_some rfl rfl rfl hb1 rfl) rfl ?_
     refine ol_skip (wn_some rfl rfl rfl hb1 rfl) rfl ?_
     refine ol_skip (wn_some rfl rfl rfl hb1 rfl) rfl ?_
     refine ol_skip (wn_some rfl rfl rfl hb1 rfl) rfl ?_
     refine oq (op_pick_t (v := .bool _) rfl hb1 rfl) ?_
     refine Z3e ?_
     rw [btake_unk hunk]; (try dsimp only)
     exact Z6u
    have hp1 := hb1
    (try simp only [bn] at hp1)
    exact absurd hb1 (by simp)
   refine Z6r ?_; intro bx3
   refine Z2d ?_
   refine ei_i rfl rfl (wn_none rfl) (os_back (os_pull3 (os_call cb_24 rfl (fun w s => Node_calls _ _ _  s ))) (fun _ s => ((((((s.pull 5).pull 5).pull 2).pull 5).pull 5).pull 5))) rfl ?_; rintro _ _ ⟨rfl, rfl⟩; rw [hna]; refine ⟨[_], rfl, ?_⟩
   refine Z6o ?_
   refine Z6p ?_
   refine Z6q ?_
   refine Z5h ?_
   refine Z6s ?_
   refine Z6t ?_
   refine Z1r ?_
   refine Z3d ?_
   refine Z6 ?_
   refine ol_split 30 rfl (fun hb2 => ?_) (fun hb2 => ?_)
   ·have hp2 := hb2
    (try simp only [bn] at hp2)
    have hunk := unk_none hix
    refine ol_skip (wn_some rfl rfl rfl hb2 rfl) rfl ?_
    refine ol_skip (wn_some rfl rfl rfl hb2 rfl) rfl ?_
    refine ol_skip (wn_some rfl rfl rfl hb2 rfl) rfl ?_
    refine ol_skip (wn_some rfl rfl rfl hb2 rfl) rfl ?_
    refine ol_skip (wn_some rfl rfl rfl hb2 rfl) rfl ?_
    refine oq (op_pick_t (v := .bool _) rfl hb2 rfl) ?_
    refine Z3e ?_
    rw [btake_unk hunk]; (try dsimp only)
    exact Z6u
   have hp2 := hb2
   (try simp only [bn] at hp2)
   exact absurd hb2 (by simp)
  refine Z6r ?_; intro bx4
  refine Z1e ?_
  refine Z9p ?_
  refine Z2d ?_
  refine ei_i rfl rfl (wn_none rfl) (os_back (os_pull3 (os_call cb_24 rfl (fun w s => Node_calls _ _ _  s ))) (fun _ s => ((((((s.pull 5).pull 5).pull 2).pull 5).pull 5).pull 5))) rfl ?_; rintro _ _ ⟨rfl, rfl⟩; rw [hna]; refine ⟨[_], rfl, ?_⟩
  refine Z6o ?_
  refine Z6p ?_
  refine Z6q ?_
  refine Z5h ?_
  refine Z6s ?_
  refine Z6t ?_
  refine Z1r ?_
  refine Z3d ?_
  refine Z6 ?_
  refine ol_split 30 rfl (fun hb3 => ?_) (fun hb3 => ?_)
  ·have hp3 := hb3
   (try simp only [bn] at hp3)
   have hunk := unk_none hix
   refine ol_skip (wn_some rfl rfl rfl hb3 rfl) rfl ?_
   refine ol_skip (wn_some rfl rfl rfl hb3 rfl) rfl ?_
   refine ol_skip (wn_some rfl rfl rfl hb3 rfl) rfl ?_
   refine ol_skip (wn_some rfl rfl rfl hb3 rfl) rfl ?_
   refine ol_skip (wn_some rfl rfl rfl hb3 rfl) rfl ?_
   refine oq (op_pick_t (v := .bool _) rfl hb3 rfl) ?_
   refine Z3e ?_
   rw [btake_unk hunk]; (try dsimp only)
   exact Z6u
  have hp3 := hb3
  (try simp only [bn] at hp3)
  exact absurd hb3 (by simp)
 have hjl := idxOf_lt hix
 have hpj : t.place u.target = (j : Int) := by unfold TreeS.place; rw [hix]
 have hna : t.node (t.place u.target) = t.nodes[j]? := by rw [hpj, TreeS.node_at]
 refine Z7 ?_
 refine cd_drawe (M := []) mx [10, 11, 15, 16] ?_
 refine Z2z ?_
 refine Z52 ?_
 refine e_q 2 rfl (wn_none rfl) (op_field fld_131_1 rfl) ?_
 refine e_q 3 rfl (wn_none rfl) (op_ld 1 sc_26 rfl rfl rfl) ?_
 refine Z9b ?_
 refine e_q 6 rfl (wn_none rfl) (op_field fld_131_1 rfl) ?_
 refine e_q 7 rfl (wn_none rfl) (op_ld 1 sc_26 rfl rfl rfl) ?_
 refine e_q 8 rfl (wn_none rfl) (op_field fld_84_2 rfl) ?_
 refine e_q 9 rfl (wn_none rfl) (op_lda (L := rootC _) 0 ag_24 rfl rfl (voteC_af2 _) (by simp [voteC_len])) ?_
 refine et_2 (i1 := 10) (i2 := 15) (by kernel_rfl) ?_ ?_
 ·
  refine Z9o ?_
  refine et_2 (i1 := 11) (i2 := 15) (by kernel_rfl) ?_ ?_
  ·
   refine ei_i rfl rfl (wn_none rfl) (os_back (os_pull2 (os_call cb_24 rfl (fun w s => Node_calls _ _ _  s ))) (fun _ s => (((((s.pull 4).pull 4).pull 2).pull 4).pull 4))) rfl ?_; rintro _ _ ⟨rfl, rfl⟩; rw [hna]; refine ⟨[], rfl, ?_⟩
   refine Z6o ?_
   refine Z6p ?_
   refine Z6q ?_
   refine Z53 ?_
   refine Z6r ?_; intro bx5
   refine Z5h ?_
   refine Z6s ?_
   refine Z6t ?_
   refine Z1r ?_
   refine Z3d ?_
   refine Z6 ?_
   refine ol_split 30 rfl (fun hb4 => ?_) (fun hb4 => ?_)
   ·have hp4 := hb4
    (try simp only [bn] at hp4)
    exact absurd hb4 (by rw [List.getElem?_eq_getElem hjl]; simp)
   have hp4 := hb4
   (try simp only [bn] at hp4)
   refine ol_q (wn_some rfl rfl rfl hb4 rfl) (op_field fld_51_1 rfl) rfl ?_
   refine ol_q (wn_some rfl rfl rfl hb4 rfl) (op_ld 0 sc_3 rfl rfl (show (nodeC _).toArray[32]? = some (.int .i64 (slA t.nodes j)) from nodeC_a32 _)) rfl ?_
   refine ol_q (wn_some rfl rfl rfl hb4 rfl) (op_field fld_84_1 rfl) rfl ?_
   refine ol_q (wn_some rfl rfl rfl hb4 rfl) (op_ld 1 sc_3 rfl rfl (voteC_a1 _)) rfl ?_
   refine ol_q (wn_some rfl rfl rfl hb4 rfl) (op_gt rfl rfl) rfl ?_
   refine oq (op_pick_f (v := .bool _) rfl hb4 rfl) ?_
   refine Z2 ?_
   refine cd_cond rfl (fun hb5 => ?_) (fun hb5 => ?_)
   ·have hp5 := hb5
    (try simp only [bn] at hp5)
    have hunk : unkB t u = true := by rw [unk_some hix]; exact decide_eq_true (by omega)
    refine Z1x ?_
    rw [btake_unk hunk]; (try dsimp only)
    exact Z6u
   have hp5 := hb5
   (try simp only [bn] at hp5)
   have hbt := btake_yes (tb := tb) (show unkB t u = false by rw [unk_some hix]; exact decide_eq_false (by omega))
   refine Zf ?_
   refine cd_drawe (M := []) mx [6, 10, 11] ?_
   refine Z2z ?_
   refine Z52 ?_
   refine Z9a ?_
   refine Z98 ?_
   refine et_2 (i1 := 6) (i2 := 10) (by kernel_rfl) ?_ ?_
   ·
    refine Z93 ?_
    refine Z6v ?_
    refine Z6w ?_
    refine Z6x ?_
    refine Z1e ?_
    refine Z6y ?_; intro bx6
    refine Z2d ?_
    refine Z6z ?_
    refine Z70 ?_
    refine Z1r ?_
    refine Zc ?_
    refine Z4w ?_
    refine Z5m ?_
    refine Z54 ?_
    refine Z71 ?_
    refine Z22 ?_
    refine ol_pull4 ?_
    refine oi (os_call cb_73 rfl (fun w s => stake_calls _ _ _ _ _ _ _ _ _ _ _ _ _ _ _ _ _ _ _ _ _  s (by assumption) (((((hr.cons _).cons _).cons _).cons _).cons _))) ?_; rintro _ _ ⟨rfl, rfl⟩; rw [hs7]
    refine Zb ?_
    refine cd_pull1 ?_
    refine Z7 ?_
    refine Z4g ?_
    refine Z5 ?_
    refine Z72 ?_
    refine Z73 ?_
    refine Z55 ?_
    refine Z74 ?_
    refine Z3b ?_
    refine Zj ?_
    refine Z2w ?_
    refine Z6 ?_
    refine ol_split 61 rfl (fun hb6 => ?_) (fun hb6 => ?_)
    ·have hp6 := hb6
     (try simp only [bn] at hp6)
     have h0 : (tb.take u).1 = 0 := by simpa using hb6
     refine ol_skip (wn_some rfl rfl rfl hb6 rfl) rfl ?_
     refine ol_skip (wn_some rfl rfl rfl hb6 rfl) rfl ?_
     refine oq (op_pick_t (v := .bool _) rfl hb6 rfl) ?_
     refine Z26 ?_
     refine Z3z ?_
     rw [show IntKind.i64.wrap (0 - had) = -had from by rw [wrap_i64 (by omega) (by omega)]; omega]
     refine oi (os_call cb_75 rfl (fun w s => put_calls _ _ _ _ _ _ _ _ _ _ _ _ _ _ _ _ _ _ _ _ _ _  s (Nat.le_of_eq (ownE_len _ _ _)) (ownE_ok hsk hw))) ?_; rintro _ _ ⟨rfl, rfl⟩
     refine Z40 ?_
     refine cd_cond rfl (fun hb7 => ?_) (fun hb7 => ?_)
     ·have hp7 := hb7
      (try simp only [bn] at hp7)
      refine cd_pull1 ?_
      refine cd_pull2 ?_
      refine Z75 ?_
      refine Zi ?_
      refine Z3f ?_
      refine Zi ?_
      refine Z1v ?_
      refine Z4i ?_
      refine Z3f ?_
      refine rg_i (wn_none rfl) (os_back (os_pull3 (os_pull3 (os_call cb_73 rfl (fun w s => stake_calls _ _ _ _ _ _ _ _ _ _ _ _ _ _ _ _ _ _ _ _ _  s hn2 (((((hr.cons _).cons _).cons _).cons _).cons _))))) (fun _ s => (((((((s.pull 6).pull 6).pull 6).pull 4).pull 4).pull 6).pull 6))) rfl rfl ?_; rintro _ _ ⟨rfl, rfl⟩; rw [stakeV_new htw h0]; refine ⟨[_, _, _], rfl, ?_⟩
      refine rg_i (wn_none rfl) (os_pull1 (os_pull2 (os_call cb_75 rfl (fun w s => put_calls _ _ _ _ _ _ _ _ _ _ _ _ _ _ _ _ _ _ _ _ _ _  s (Nat.le_of_eq (htp.1 h0).2.2) (htp.1 h0).2.1)))) rfl rfl ?_; rintro _ _ ⟨rfl, rfl⟩; refine ⟨[_, _, _], rfl, ?_⟩
      refine rg_nil3 ?_
      refine px_then ?_
      refine Z2x ?_
      rw [(htp.1 h0).1, hbt]
      exact Z3q
     have hp7 := hb7
     (try simp only [bn] at hp7)
     exact absurd h0 (show (tb.take u).1 ≠ 0 by simpa using hb7)
    have hp6 := hb6
    (try simp only [bn] at hp6)
    have h0 : (tb.take u).1 ≠ 0 := by simpa using hb6
    refine ol_q (wn_some rfl rfl rfl hb6 rfl) (op_move (v := .int _ _) rfl) rfl ?_
    refine ol_q (wn_some rfl rfl rfl hb6 rfl) (op_eq rfl rfl) rfl ?_
    refine oq (op_pick_f (v := .bool _) rfl hb6 rfl) ?_
    refine Z2 ?_
    refine cd_cond rfl (fun hb8 => ?_) (fun hb8 => ?_)
    ·have hp8 := hb8
     (try simp only [bn] at hp8)
     have h2 : (tb.take u).1 = 2 := by simpa using hb8
     refine Z3z ?_
     rw [show IntKind.i64.wrap (0 - had) = -had from by rw [wrap_i64 (by omega) (by omega)]; omega]
     refine oi (os_call cb_75 rfl (fun w s => put_calls _ _ _ _ _ _ _ _ _ _ _ _ _ _ _ _ _ _ _ _ _ _  s (Nat.le_of_eq (ownE_len _ _ _)) (ownE_ok hsk hw))) ?_; rintro _ _ ⟨rfl, rfl⟩
     refine Z40 ?_
     refine cd_cond rfl (fun hb9 => ?_) (fun hb9 => ?_)
     ·have hp9 := hb9
      (try simp only [bn] at hp9)
      exact absurd (show (tb.take u).1 = 0 by simpa using hb9) h0
     have hp9 := hb9
     (try simp only [bn] at hp9)
     refine Z3g ?_
     rw [htp.2.1 h2, hbt]
     exact Z3q
    have hp8 := hb8
    (try simp only [bn] at hp8)
    have h2 : (tb.take u).1 ≠ 2 := by simpa using hb8
    refine Zf ?_
    refine Ze ?_
    refine Z4m ?_
    refine cd_cond rfl (fun hb10 => ?_) (fun hb10 => ?_)
    ·have hp10 := hb10
     (try simp only [bn] at hp10)
     exact absurd (show (tb.take u).1 = 0 by simpa using hb10) h0
    have hp10 := hb10
    (try simp only [bn] at hp10)
    refine Z3g ?_
    rw [hbt, htp.2.2 h0 h2]
    exact Z76
   refine Z6y ?_; intro bx7
   refine Z1o ?_
   refine Z94 ?_
   refine Z6v ?_
   refine Z6w ?_
   refine Z6x ?_
   refine Z2d ?_
   refine Z6z ?_
   refine Z70 ?_
   refine Z1r ?_
   refine Zc ?_
   refine Z4w ?_
   refine Z5m ?_
   refine Z54 ?_
   refine Z71 ?_
   refine Z22 ?_
   refine ol_pull4 ?_
   refine oi (os_call cb_73 rfl (fun w s => stake_calls _ _ _ _ _ _ _ _ _ _ _ _ _ _ _ _ _ _ _ _ _  s (by assumption) (((((hr.cons _).cons _).cons _).cons _).cons _))) ?_; rintro _ _ ⟨rfl, rfl⟩; rw [hs7]
   refine Zb ?_
   refine cd_pull1 ?_
   refine Z7 ?_
   refine Z4g ?_
   refine Z5 ?_
   refine Z72 ?_
   refine Z73 ?_
   refine Z55 ?_
   refine Z74 ?_
   refine Z3b ?_
   refine Zj ?_
   refine Z2w ?_
   refine Z6 ?_
   refine ol_split 61 rfl (fun hb11 => ?_) (fun hb11 => ?_)
   ·have hp11 := hb11
    (try simp only [bn] at hp11)
    have h0 : (tb.take u).1 = 0 := by simpa using hb11
    refine ol_skip (wn_some rfl rfl rfl hb11 rfl) rfl ?_
    refine ol_skip (wn_some rfl rfl rfl hb11 rfl) rfl ?_
    refine oq (op_pick_t (v := .bool _) rfl hb11 rfl) ?_
    refine Z26 ?_
    refine Z3z ?_
    rw [show IntKind.i64.wrap (0 - had) = -had from by rw [wrap_i64 (by omega) (by omega)]; omega]
    refine oi (os_call cb_75 rfl (fun w s => put_calls _ _ _ _ _ _ _ _ _ _ _ _ _ _ _ _ _ _ _ _ _ _  s (Nat.le_of_eq (ownE_len _ _ _)) (ownE_ok hsk hw))) ?_; rintro _ _ ⟨rfl, rfl⟩
    refine Z40 ?_
    refine cd_cond rfl (fun hb12 => ?_) (fun hb12 => ?_)
    ·have hp12 := hb12
     (try simp only [bn] at hp12)
     refine cd_pull1 ?_
     refine cd_pull2 ?_
     refine Z75 ?_
     refine Zi ?_
     refine Z3f ?_
     refine Zi ?_
     refine Z1v ?_
     refine Z4i ?_
     refine Z3f ?_
     refine rg_i (wn_none rfl) (os_back (os_pull3 (os_pull3 (os_call cb_73 rfl (fun w s => stake_calls _ _ _ _ _ _ _ _ _ _ _ _ _ _ _ _ _ _ _ _ _  s hn2 (((((hr.cons _).cons _).cons _).cons _).cons _))))) (fun _ s => (((((((s.pull 6).pull 6).pull 6).pull 4).pull 4).pull 6).pull 6))) rfl rfl ?_; rintro _ _ ⟨rfl, rfl⟩; rw [stakeV_new htw h0]; refine ⟨[_, _, _], rfl, ?_⟩
     refine rg_i (wn_none rfl) (os_pull1 (os_pull2 (os_call cb_75 rfl (fun w s => put_calls _ _ _ _ _ _ _ _ _ _ _ _ _ _ _ _ _ _ _ _ _ _  s (Nat.le_of_eq (htp.1 h0).2.2) (htp.1 h0).2.1)))) rfl rfl ?_; rintro _ _ ⟨rfl, rfl⟩; refine ⟨[_, _, _], rfl, ?_⟩
     refine rg_nil3 ?_
     refine px_then ?_
     refine Z2x ?_
     rw [(htp.1 h0).1, hbt]
     exact Z3q
    have hp12 := hb12
    (try simp only [bn] at hp12)
    exact absurd h0 (show (tb.take u).1 ≠ 0 by simpa using hb12)
   have hp11 := hb11
   (try simp only [bn] at hp11)
   have h0 : (tb.take u).1 ≠ 0 := by simpa using hb11
   refine ol_q (wn_some rfl rfl rfl hb11 rfl) (op_move (v := .int _ _) rfl) rfl ?_
   refine ol_q (wn_some rfl rfl rfl hb11 rfl) (op_eq rfl rfl) rfl ?_
   refine oq (op_pick_f (v := .bool _) rfl hb11 rfl) ?_
   refine Z2 ?_
   refine cd_cond rfl (fun hb13 => ?_) (fun hb13 => ?_)
   ·have hp13 := hb13
    (try simp only [bn] at hp13)
    have h2 : (tb.take u).1 = 2 := by simpa using hb13
    refine Z3z ?_
    rw [show IntKind.i64.wrap (0 - had) = -had from by rw [wrap_i64 (by omega) (by omega)]; omega]
    refine oi (os_call cb_75 rfl (fun w s => put_calls _ _ _ _ _ _ _ _ _ _ _ _ _ _ _ _ _ _ _ _ _ _  s (Nat.le_of_eq (ownE_len _ _ _)) (ownE_ok hsk hw))) ?_; rintro _ _ ⟨rfl, rfl⟩
    refine Z40 ?_
    refine cd_cond rfl (fun hb14 => ?_) (fun hb14 => ?_)
    ·have hp14 := hb14
     (try simp only [bn] at hp14)
     exact absurd (show (tb.take u).1 = 0 by simpa using hb14) h0
    have hp14 := hb14
    (try simp only [bn] at hp14)
    refine Z3g ?_
    rw [htp.2.1 h2, hbt]
    exact Z3q
   have hp13 := hb13
   (try simp only [bn] at hp13)
   have h2 : (tb.take u).1 ≠ 2 := by simpa using hb13
   refine Zf ?_
   refine Ze ?_
   refine Z4m ?_
   refine cd_cond rfl (fun hb15 => ?_) (fun hb15 => ?_)
   ·have hp15 := hb15
    (try simp only [bn] at hp15)
    exact absurd (show (tb.take u).1 = 0 by simpa using hb15) h0
   have hp15 := hb15
   (try simp only [bn] at hp15)
   refine Z3g ?_
   rw [hbt, htp.2.2 h0 h2]
   exact Z76
  refine Z6r ?_; intro bx8
  refine Z2d ?_
  refine ei_i rfl rfl (wn_none rfl) (os_back (os_pull3 (os_call cb_24 rfl (fun w s => Node_calls _ _ _  s ))) (fun _ s => ((((((s.pull 5).pull 5).pull 2).pull 5).pull 5).pull 5))) rfl ?_; rintro _ _ ⟨rfl, rfl⟩; rw [hna]; refine ⟨[_], rfl, ?_⟩
  refine Z6o ?_
  refine Z6p ?_
  refine Z6q ?_
  refine Z5h ?_
  refine Z6s ?_
  refine Z6t ?_
  refine Z1r ?_
  refine Z3d ?_
  refine Z6 ?_
  refine ol_split 30 rfl (fun hb16 => ?_) (fun hb16 => ?_)
  ·have hp16 := hb16
   (try simp only [bn] at hp16)
   exact absurd hb16 (by rw [List.getElem?_eq_getElem hjl]; simp)
  have hp16 := hb16
  (try simp only [bn] at hp16)
  refine ol_q (wn_some rfl rfl rfl hb16 rfl) (op_field fld_51_1 rfl) rfl ?_
  refine ol_q (wn_some rfl rfl rfl hb16 rfl) (op_ld 0 sc_3 rfl rfl (show (nodeC _).toArray[32]? = some (.int .i64 (slA t.nodes j)) from nodeC_a32 _)) rfl ?_
  refine ol_q (wn_some rfl rfl rfl hb16 rfl) (op_field fld_84_1 rfl) rfl ?_
  refine ol_q (wn_some rfl rfl rfl hb16 rfl) (op_ld 1 sc_3 rfl rfl (voteC_a1 _)) rfl ?_
  refine ol_q (wn_some rfl rfl rfl hb16 rfl) (op_gt rfl rfl) rfl ?_
  refine oq (op_pick_f (v := .bool _) rfl hb16 rfl) ?_
  refine Z2 ?_
  refine cd_cond rfl (fun hb17 => ?_) (fun hb17 => ?_)
  ·have hp17 := hb17
   (try simp only [bn] at hp17)
   have hunk : unkB t u = true := by rw [unk_some hix]; exact decide_eq_true (by omega)
   refine Z1x ?_
   rw [btake_unk hunk]; (try dsimp only)
   exact Z6u
  have hp17 := hb17
  (try simp only [bn] at hp17)
  have hbt := btake_yes (tb := tb) (show unkB t u = false by rw [unk_some hix]; exact decide_eq_false (by omega))
  refine Zf ?_
  refine cd_drawe (M := []) mx [6, 10, 11] ?_
  refine Z2z ?_
  refine Z52 ?_
  refine Z9a ?_
  refine Z98 ?_
  refine et_2 (i1 := 6) (i2 := 10) (by kernel_rfl) ?_ ?_
  ·
   refine Z93 ?_
   refine Z6v ?_
   refine Z6w ?_
   refine Z6x ?_
   refine Z1e ?_
   refine Z6y ?_; intro bx9
   refine Z2d ?_
   refine Z6z ?_
   refine Z70 ?_
   refine Z1r ?_
   refine Zc ?_
   refine Z4w ?_
   refine Z5m ?_
   refine Z54 ?_
   refine Z71 ?_
   refine Z22 ?_
   refine ol_pull4 ?_
   refine oi (os_call cb_73 rfl (fun w s => stake_calls _ _ _ _ _ _ _ _ _ _ _ _ _ _ _ _ _ _ _ _ _  s (by assumption) (((((hr.cons _).cons _).cons _).cons _).cons _))) ?_; rintro _ _ ⟨rfl, rfl⟩; rw [hs7]
   refine Zb ?_
   refine cd_pull1 ?_
   refine Z7 ?_
   refine Z4g ?_
   refine Z5 ?_
   refine Z72 ?_
   refine Z73 ?_
   refine Z55 ?_
   refine Z74 ?_
   refine Z3b ?_
   refine Zj ?_
   refine Z2w ?_
   refine Z6 ?_
   refine ol_split 61 rfl (fun hb18 => ?_) (fun hb18 => ?_)
   ·have hp18 := hb18
    (try simp only [bn] at hp18)
    have h0 : (tb.take u).1 = 0 := by simpa using hb18
    refine ol_skip (wn_some rfl rfl rfl hb18 rfl) rfl ?_
    refine ol_skip (wn_some rfl rfl rfl hb18 rfl) rfl ?_
    refine oq (op_pick_t (v := .bool _) rfl hb18 rfl) ?_
    refine Z26 ?_
    refine Z3z ?_
    rw [show IntKind.i64.wrap (0 - had) = -had from by rw [wrap_i64 (by omega) (by omega)]; omega]
    refine oi (os_call cb_75 rfl (fun w s => put_calls _ _ _ _ _ _ _ _ _ _ _ _ _ _ _ _ _ _ _ _ _ _  s (Nat.le_of_eq (ownE_len _ _ _)) (ownE_ok hsk hw))) ?_; rintro _ _ ⟨rfl, rfl⟩
    refine Z40 ?_
    refine cd_cond rfl (fun hb19 => ?_) (fun hb19 => ?_)
    ·have hp19 := hb19
     (try simp only [bn] at hp19)
     refine cd_pull1 ?_
     refine cd_pull2 ?_
     refine Z75 ?_
     refine Zi ?_
     refine Z3f ?_
     refine Zi ?_
     refine Z1v ?_
     refine Z4i ?_
     refine Z3f ?_
     refine rg_i (wn_none rfl) (os_back (os_pull3 (os_pull3 (os_call cb_73 rfl (fun w s => stake_calls _ _ _ _ _ _ _ _ _ _ _ _ _ _ _ _ _ _ _ _ _  s hn2 (((((hr.cons _).cons _).cons _).cons _).cons _))))) (fun _ s => (((((((s.pull 6).pull 6).pull 6).pull 4).pull 4).pull 6).pull 6))) rfl rfl ?_; rintro _ _ ⟨rfl, rfl⟩; rw [stakeV_new htw h0]; refine ⟨[_, _, _], rfl, ?_⟩
     refine rg_i (wn_none rfl) (os_pull1 (os_pull2 (os_call cb_75 rfl (fun w s => put_calls _ _ _ _ _ _ _ _ _ _ _ _ _ _ _ _ _ _ _ _ _ _  s (Nat.le_of_eq (htp.1 h0).2.2) (htp.1 h0).2.1)))) rfl rfl ?_; rintro _ _ ⟨rfl, rfl⟩; refine ⟨[_, _, _], rfl, ?_⟩
     refine rg_nil3 ?_
     refine px_then ?_
     refine Z2x ?_
     rw [(htp.1 h0).1, hbt]
     exact Z3q
    have hp19 := hb19
    (try simp only [bn] at hp19)
    exact absurd h0 (show (tb.take u).1 ≠ 0 by simpa using hb19)
   have hp18 := hb18
   (try simp only [bn] at hp18)
   have h0 : (tb.take u).1 ≠ 0 := by simpa using hb18
   refine ol_q (wn_some rfl rfl rfl hb18 rfl) (op_move (v := .int _ _) rfl) rfl ?_
   refine ol_q (wn_some rfl rfl rfl hb18 rfl) (op_eq rfl rfl) rfl ?_
   refine oq (op_pick_f (v := .bool _) rfl hb18 rfl) ?_
   refine Z2 ?_
   refine cd_cond rfl (fun hb20 => ?_) (fun hb20 => ?_)
   ·have hp20 := hb20
    (try simp only [bn] at hp20)
    have h2 : (tb.take u).1 = 2 := by simpa using hb20
    refine Z3z ?_
    rw [show IntKind.i64.wrap (0 - had) = -had from by rw [wrap_i64 (by omega) (by omega)]; omega]
    refine oi (os_call cb_75 rfl (fun w s => put_calls _ _ _ _ _ _ _ _ _ _ _ _ _ _ _ _ _ _ _ _ _ _  s (Nat.le_of_eq (ownE_len _ _ _)) (ownE_ok hsk hw))) ?_; rintro _ _ ⟨rfl, rfl⟩
    refine Z40 ?_
    refine cd_cond rfl (fun hb21 => ?_) (fun hb21 => ?_)
    ·have hp21 := hb21
     (try simp only [bn] at hp21)
     exact absurd (show (tb.take u).1 = 0 by simpa using hb21) h0
    have hp21 := hb21
    (try simp only [bn] at hp21)
    refine Z3g ?_
    rw [htp.2.1 h2, hbt]
    exact Z3q
   have hp20 := hb20
   (try simp only [bn] at hp20)
   have h2 : (tb.take u).1 ≠ 2 := by simpa using hb20
   refine Zf ?_
   refine Ze ?_
   refine Z4m ?_
   refine cd_cond rfl (fun hb22 => ?_) (fun hb22 => ?_)
   ·have hp22 := hb22
    (try simp only [bn] at hp22)
    exact absurd (show (tb.take u).1 = 0 by simpa using hb22) h0
   have hp22 := hb22
   (try simp only [bn] at hp22)
   refine Z3g ?_
   rw [hbt, htp.2.2 h0 h2]
   exact Z76
  refine Z6y ?_; intro bx10
  refine Z1o ?_
  refine Z94 ?_
  refine Z6v ?_
  refine Z6w ?_
  refine Z6x ?_
  refine Z2d ?_
  refine Z6z ?_
  refine Z70 ?_
  refine Z1r ?_
  refine Zc ?_
  refine Z4w ?_
  refine Z5m ?_
  refine Z54 ?_
  refine Z71 ?_
  refine Z22 ?_
  refine ol_pull4 ?_
  refine oi (os_call cb_73 rfl (fun w s => stake_calls _ _ _ _ _ _ _ _ _ _ _ _ _ _ _ _ _ _ _ _ _  s (by assumption) (((((hr.cons _).cons _).cons _).cons _).cons _))) ?_; rintro _ _ ⟨rfl, rfl⟩; rw [hs7]
  refine Zb ?_
  refine cd_pull1 ?_
  refine Z7 ?_
  refine Z4g ?_
  refine Z5 ?_
  refine Z72 ?_
  refine Z73 ?_
  refine Z55 ?_
  refine Z74 ?_
  refine Z3b ?_
  refine Zj ?_
  refine Z2w ?_
  refine Z6 ?_
  refine ol_split 61 rfl (fun hb23 => ?_) (fun hb23 => ?_)
  ·have hp23 := hb23
   (try simp only [bn] at hp23)
   have h0 : (tb.take u).1 = 0 := by simpa using hb23
   refine ol_skip (wn_some rfl rfl rfl hb23 rfl) rfl ?_
   refine ol_skip (wn_some rfl rfl rfl hb23 rfl) rfl ?_
   refine oq (op_pick_t (v := .bool _) rfl hb23 rfl) ?_
   refine Z26 ?_
   refine Z3z ?_
   rw [show IntKind.i64.wrap (0 - had) = -had from by rw [wrap_i64 (by omega) (by omega)]; omega]
   refine oi (os_call cb_75 rfl (fun w s => put_calls _ _ _ _ _ _ _ _ _ _ _ _ _ _ _ _ _ _ _ _ _ _  s (Nat.le_of_eq (ownE_len _ _ _)) (ownE_ok hsk hw))) ?_; rintro _ _ ⟨rfl, rfl⟩
   refine Z40 ?_
   refine cd_cond rfl (fun hb24 => ?_) (fun hb24 => ?_)
   ·have hp24 := hb24
    (try simp only [bn] at hp24)
    refine cd_pull1 ?_
    refine cd_pull2 ?_
    refine Z75 ?_
    refine Zi ?_
    refine Z3f ?_
    refine Zi ?_
    refine Z1v ?_
    refine Z4i ?_
    refine Z3f ?_
    refine rg_i (wn_none rfl) (os_back (os_pull3 (os_pull3 (os_call cb_73 rfl (fun w s => stake_calls _ _ _ _ _ _ _ _ _ _ _ _ _ _ _ _ _ _ _ _ _  s hn2 (((((hr.cons _).cons _).cons _).cons _).cons _))))) (fun _ s => (((((((s.pull 6).pull 6).pull 6).pull 4).pull 4).pull 6).pull 6))) rfl rfl ?_; rintro _ _ ⟨rfl, rfl⟩; rw [stakeV_new htw h0]; refine ⟨[_, _, _], rfl, ?_⟩
    refine rg_i (wn_none rfl) (os_pull1 (os_pull2 (os_call cb_75 rfl (fun w s => put_calls _ _ _ _ _ _ _ _ _ _ _ _ _ _ _ _ _ _ _ _ _ _  s (Nat.le_of_eq (htp.1 h0).2.2) (htp.1 h0).2.1)))) rfl rfl ?_; rintro _ _ ⟨rfl, rfl⟩; refine ⟨[_, _, _], rfl, ?_⟩
    refine rg_nil3 ?_
    refine px_then ?_
    refine Z2x ?_
    rw [(htp.1 h0).1, hbt]
    exact Z3q
   have hp24 := hb24
   (try simp only [bn] at hp24)
   exact absurd h0 (show (tb.take u).1 ≠ 0 by simpa using hb24)
  have hp23 := hb23
  (try simp only [bn] at hp23)
  have h0 : (tb.take u).1 ≠ 0 := by simpa using hb23
  refine ol_q (wn_some rfl rfl rfl hb23 rfl) (op_move (v := .int _ _) rfl) rfl ?_
  refine ol_q (wn_some rfl rfl rfl hb23 rfl) (op_eq rfl rfl) rfl ?_
  refine oq (op_pick_f (v := .bool _) rfl hb23 rfl) ?_
  refine Z2 ?_
  refine cd_cond rfl (fun hb25 => ?_) (fun hb25 => ?_)
  ·have hp25 := hb25
   (try simp only [bn] at hp25)
   have h2 : (tb.take u).1 = 2 := by simpa using hb25
   refine Z3z ?_
   rw [show IntKind.i64.wrap (0 - had) = -had from by rw [wrap_i64 (by omega) (by omega)]; omega]
   refine oi (os_call cb_75 rfl (fun w s => put_calls _ _ _ _ _ _ _ _ _ _ _ _ _ _ _ _ _ _ _ _ _ _  s (Nat.le_of_eq (ownE_len _ _ _)) (ownE_ok hsk hw))) ?_; rintro _ _ ⟨rfl, rfl⟩
   refine Z40 ?_
   refine cd_cond rfl (fun hb26 => ?_) (fun hb26 => ?_)
   ·have hp26 := hb26
    (try simp only [bn] at hp26)
    exact absurd (show (tb.take u).1 = 0 by simpa using hb26) h0
   have hp26 := hb26
   (try simp only [bn] at hp26)
   refine Z3g ?_
   rw [htp.2.1 h2, hbt]
   exact Z3q
  have hp25 := hb25
  (try simp only [bn] at hp25)
  have h2 : (tb.take u).1 ≠ 2 := by simpa using hb25
  refine Zf ?_
  refine Ze ?_
  refine Z4m ?_
  refine cd_cond rfl (fun hb27 => ?_) (fun hb27 => ?_)
  ·have hp27 := hb27
   (try simp only [bn] at hp27)
   exact absurd (show (tb.take u).1 = 0 by simpa using hb27) h0
  have hp27 := hb27
  (try simp only [bn] at hp27)
  refine Z3g ?_
  rw [hbt, htp.2.2 h0 h2]
  exact Z76
 refine Z6r ?_; intro bx11
 refine Z1e ?_
 refine Z9p ?_
 refine Z2d ?_
 refine ei_i rfl rfl (wn_none rfl) (os_back (os_pull3 (os_call cb_24 rfl (fun w s => Node_calls _ _ _  s ))) (fun _ s => ((((((s.pull 5).pull 5).pull 2).pull 5).pull 5).pull 5))) rfl ?_; rintro _ _ ⟨rfl, rfl⟩; rw [hna]; refine ⟨[_], rfl, ?_⟩
 refine Z6o ?_
 refine Z6p ?_
 refine Z6q ?_
 refine Z5h ?_
 refine Z6s ?_
 refine Z6t ?_
 refine Z1r ?_
 refine Z3d ?_
 refine Z6 ?_
 refine ol_split 30 rfl (fun hb28 => ?_) (fun hb28 => ?_)
 ·have hp28 := hb28
  (try simp only [bn] at hp28)
  exact absurd hb28 (by rw [List.getElem?_eq_getElem hjl]; simp)
 have hp28 := hb28
 (try simp only [bn] at hp28)
 refine ol_q (wn_some rfl rfl rfl hb28 rfl) (op_field fld_51_1 rfl) rfl ?_
 refine ol_q (wn_some rfl rfl rfl hb28 rfl) (op_ld 0 sc_3 rfl rfl (show (nodeC _).toArray[32]? = some (.int .i64 (slA t.nodes j)) from nodeC_a32 _)) rfl ?_
 refine ol_q (wn_some rfl rfl rfl hb28 rfl) (op_field fld_84_1 rfl) rfl ?_
 refine ol_q (wn_some rfl rfl rfl hb28 rfl) (op_ld 1 sc_3 rfl rfl (voteC_a1 _)) rfl ?_
 refine ol_q (wn_some rfl rfl rfl hb28 rfl) (op_gt rfl rfl) rfl ?_
 refine oq (op_pick_f (v := .bool _) rfl hb28 rfl) ?_
 refine Z2 ?_
 refine cd_cond rfl (fun hb29 => ?_) (fun hb29 => ?_)
 ·have hp29 := hb29
  (try simp only [bn] at hp29)
  have hunk : unkB t u = true := by rw [unk_some hix]; exact decide_eq_true (by omega)
  refine Z1x ?_
  rw [btake_unk hunk]; (try dsimp only)
  exact Z6u
 have hp29 := hb29
 (try simp only [bn] at hp29)
 have hbt := btake_yes (tb := tb) (show unkB t u = false by rw [unk_some hix]; exact decide_eq_false (by omega))
 refine Zf ?_
 refine cd_drawe (M := []) mx [6, 10, 11] ?_
 refine Z2z ?_
 refine Z52 ?_
 refine Z9a ?_
 refine Z98 ?_
 refine et_2 (i1 := 6) (i2 := 10) (by kernel_rfl) ?_ ?_
 ·
  refine Z93 ?_
  refine Z6v ?_
  refine Z6w ?_
  refine Z6x ?_
  refine Z1e ?_
  refine Z6y ?_; intro bx12
  refine Z2d ?_
  refine Z6z ?_
  refine Z70 ?_
  refine Z1r ?_
  refine Zc ?_
  refine Z4w ?_
  refine Z5m ?_
  refine Z54 ?_
  refine Z71 ?_
  refine Z22 ?_
  refine ol_pull4 ?_
  refine oi (os_call cb_73 rfl (fun w s => stake_calls _ _ _ _ _ _ _ _ _ _ _ _ _ _ _ _ _ _ _ _ _  s (by assumption) (((((hr.cons _).cons _).cons _).cons _).cons _))) ?_; rintro _ _ ⟨rfl, rfl⟩; rw [hs7]
  refine Zb ?_
  refine cd_pull1 ?_
  refine Z7 ?_
  refine Z4g ?_
  refine Z5 ?_
  refine Z72 ?_
  refine Z73 ?_
  refine Z55 ?_
  refine Z74 ?_
  refine Z3b ?_
  refine Zj ?_
  refine Z2w ?_
  refine Z6 ?_
  refine ol_split 61 rfl (fun hb30 => ?_) (fun hb30 => ?_)
  ·have hp30 := hb30
   (try simp only [bn] at hp30)
   have h0 : (tb.take u).1 = 0 := by simpa using hb30
   refine ol_skip (wn_some rfl rfl rfl hb30 rfl) rfl ?_
   refine ol_skip (wn_some rfl rfl rfl hb30 rfl) rfl ?_
   refine oq (op_pick_t (v := .bool _) rfl hb30 rfl) ?_
   refine Z26 ?_
   refine Z3z ?_
   rw [show IntKind.i64.wrap (0 - had) = -had from by rw [wrap_i64 (by omega) (by omega)]; omega]
   refine oi (os_call cb_75 rfl (fun w s => put_calls _ _ _ _ _ _ _ _ _ _ _ _ _ _ _ _ _ _ _ _ _ _  s (Nat.le_of_eq (ownE_len _ _ _)) (ownE_ok hsk hw))) ?_; rintro _ _ ⟨rfl, rfl⟩
   refine Z40 ?_
   refine cd_cond rfl (fun hb31 => ?_) (fun hb31 => ?_)
   ·have hp31 := hb31
    (try simp only [bn] at hp31)
    refine cd_pull1 ?_
    refine cd_pull2 ?_
    refine Z75 ?_
    refine Zi ?_
    refine Z3f ?_
    refine Zi ?_
    refine Z1v ?_
    refine Z4i ?_
    refine Z3f ?_
    refine rg_i (wn_none rfl) (os_back (os_pull3 (os_pull3 (os_call cb_73 rfl (fun w s => stake_calls _ _ _ _ _ _ _ _ _ _ _ _ _ _ _ _ _ _ _ _ _  s hn2 (((((hr.cons _).cons _).cons _).cons _).cons _))))) (fun _ s => (((((((s.pull 6).pull 6).pull 6).pull 4).pull 4).pull 6).pull 6))) rfl rfl ?_; rintro _ _ ⟨rfl, rfl⟩; rw [stakeV_new htw h0]; refine ⟨[_, _, _], rfl, ?_⟩
    refine rg_i (wn_none rfl) (os_pull1 (os_pull2 (os_call cb_75 rfl (fun w s => put_calls _ _ _ _ _ _ _ _ _ _ _ _ _ _ _ _ _ _ _ _ _ _  s (Nat.le_of_eq (htp.1 h0).2.2) (htp.1 h0).2.1)))) rfl rfl ?_; rintro _ _ ⟨rfl, rfl⟩; refine ⟨[_, _, _], rfl, ?_⟩
    refine rg_nil3 ?_
    refine px_then ?_
    refine Z2x ?_
    rw [(htp.1 h0).1, hbt]
    exact Z3q
   have hp31 := hb31
   (try simp only [bn] at hp31)
   exact absurd h0 (show (tb.take u).1 ≠ 0 by simpa using hb31)
  have hp30 := hb30
  (try simp only [bn] at hp30)
  have h0 : (tb.take u).1 ≠ 0 := by simpa using hb30
  refine ol_q (wn_some rfl rfl rfl hb30 rfl) (op_move (v := .int _ _) rfl) rfl ?_
  refine ol_q (wn_some rfl rfl rfl hb30 rfl) (op_eq rfl rfl) rfl ?_
  refine oq (op_pick_f (v := .bool _) rfl hb30 rfl) ?_
  refine Z2 ?_
  refine cd_cond rfl (fun hb32 => ?_) (fun hb32 => ?_)
  ·have hp32 := hb32
   (try simp only [bn] at hp32)
   have h2 : (tb.take u).1 = 2 := by simpa using hb32
   refine Z3z ?_
   rw [show IntKind.i64.wrap (0 - had) = -had from by rw [wrap_i64 (by omega) (by omega)]; omega]
   refine oi (os_call cb_75 rfl (fun w s => put_calls _ _ _ _ _ _ _ _ _ _ _ _ _ _ _ _ _ _ _ _ _ _  s (Nat.le_of_eq (ownE_len _ _ _)) (ownE_ok hsk hw))) ?_; rintro _ _ ⟨rfl, rfl⟩
   refine Z40 ?_
   refine cd_cond rfl (fun hb33 => ?_) (fun hb33 => ?_)
   ·have hp33 := hb33
    (try simp only [bn] at hp33)
    exact absurd (show (tb.take u).1 = 0 by simpa using hb33) h0
   have hp33 := hb33
   (try simp only [bn] at hp33)
   refine Z3g ?_
   rw [htp.2.1 h2, hbt]
   exact Z3q
  have hp32 := hb32
  (try simp only [bn] at hp32)
  have h2 : (tb.take u).1 ≠ 2 := by simpa using hb32
  refine Zf ?_
  refine Ze ?_
  refine Z4m ?_
  refine cd_cond rfl (fun hb34 => ?_) (fun hb34 => ?_)
  ·have hp34 := hb34
   (try simp only [bn] at hp34)
   exact absurd (show (tb.take u).1 = 0 by simpa using hb34) h0
  have hp34 := hb34
  (try simp only [bn] at hp34)
  refine Z3g ?_
  rw [hbt, htp.2.2 h0 h2]
  exact Z76
 refine Z6y ?_; intro bx13
 refine Z1o ?_
 refine Z94 ?_
 refine Z6v ?_
 refine Z6w ?_
 refine Z6x ?_
 refine Z2d ?_
 refine Z6z ?_
 refine Z70 ?_
 refine Z1r ?_
 refine Zc ?_
 refine Z4w ?_
 refine Z5m ?_
 refine Z54 ?_
 refine Z71 ?_
 refine Z22 ?_
 refine ol_pull4 ?_
 refine oi (os_call cb_73 rfl (fun w s => stake_calls _ _ _ _ _ _ _ _ _ _ _ _ _ _ _ _ _ _ _ _ _  s (by assumption) (((((hr.cons _).cons _).cons _).cons _).cons _))) ?_; rintro _ _ ⟨rfl, rfl⟩; rw [hs7]
 refine Zb ?_
 refine cd_pull1 ?_
 refine Z7 ?_
 refine Z4g ?_
 refine Z5 ?_
 refine Z72 ?_
 refine Z73 ?_
 refine Z55 ?_
 refine Z74 ?_
 refine Z3b ?_
 refine Zj ?_
 refine Z2w ?_
 refine Z6 ?_
 refine ol_split 61 rfl (fun hb35 => ?_) (fun hb35 => ?_)
 ·have hp35 := hb35
  (try simp only [bn] at hp35)
  have h0 : (tb.take u).1 = 0 := by simpa using hb35
  refine ol_skip (wn_some rfl rfl rfl hb35 rfl) rfl ?_
  refine ol_skip (wn_some rfl rfl rfl hb35 rfl) rfl ?_
  refine oq (op_pick_t (v := .bool _) rfl hb35 rfl) ?_
  refine Z26 ?_
  refine Z3z ?_
  rw [show IntKind.i64.wrap (0 - had) = -had from by rw [wrap_i64 (by omega) (by omega)]; omega]
  refine oi (os_call cb_75 rfl (fun w s => put_calls _ _ _ _ _ _ _ _ _ _ _ _ _ _ _ _ _ _ _ _ _ _  s (Nat.le_of_eq (ownE_len _ _ _)) (ownE_ok hsk hw))) ?_; rintro _ _ ⟨rfl, rfl⟩
  refine Z40 ?_
  refine cd_cond rfl (fun hb36 => ?_) (fun hb36 => ?_)
  ·have hp36 := hb36
   (try simp only [bn] at hp36)
   refine cd_pull1 ?_
   refine cd_pull2 ?_
   refine Z75 ?_
   refine Zi ?_
   refine Z3f ?_
   refine Zi ?_
   refine Z1v ?_
   refine Z4i ?_
   refine Z3f ?_
   refine rg_i (wn_none rfl) (os_back (os_pull3 (os_pull3 (os_call cb_73 rfl (fun w s => stake_calls _ _ _ _ _ _ _ _ _ _ _ _ _ _ _ _ _ _ _ _ _  s hn2 (((((hr.cons _).cons _).cons _).cons _).cons _))))) (fun _ s => (((((((s.pull 6).pull 6).pull 6).pull 4).pull 4).pull 6).pull 6))) rfl rfl ?_; rintro _ _ ⟨rfl, rfl⟩; rw [stakeV_new htw h0]; refine ⟨[_, _, _], rfl, ?_⟩
   refine rg_i (wn_none rfl) (os_pull1 (os_pull2 (os_call cb_75 rfl (fun w s => put_calls _ _ _ _ _ _ _ _ _ _ _ _ _ _ _ _ _ _ _ _ _ _  s (Nat.le_of_eq (htp.1 h0).2.2) (htp.1 h0).2.1)))) rfl rfl ?_; rintro _ _ ⟨rfl, rfl⟩; refine ⟨[_, _, _], rfl, ?_⟩
   refine rg_nil3 ?_
   refine px_then ?_
   refine Z2x ?_
   rw [(htp.1 h0).1, hbt]
   exact Z3q
  have hp36 := hb36
  (try simp only [bn] at hp36)
  exact absurd h0 (show (tb.take u).1 ≠ 0 by simpa using hb36)
 have hp35 := hb35
 (try simp only [bn] at hp35)
 have h0 : (tb.take u).1 ≠ 0 := by simpa using hb35
 refine ol_q (wn_some rfl rfl rfl hb35 rfl) (op_move (v := .int _ _) rfl) rfl ?_
 refine ol_q (wn_some rfl rfl rfl hb35 rfl) (op_eq rfl rfl) rfl ?_
 refine oq (op_pick_f (v := .bool _) rfl hb35 rfl) ?_
 refine Z2 ?_
 refine cd_cond rfl (fun hb37 => ?_) (fun hb37 => ?_)
 ·have hp37 := hb37
  (try simp only [bn] at hp37)
  have h2 : (tb.take u).1 = 2 := by simpa using hb37
  refine Z3z ?_
  rw [show IntKind.i64.wrap (0 - had) = -had from by rw [wrap_i64 (by omega) (by omega)]; omega]
  refine oi (os_call cb_75 rfl (fun w s => put_calls _ _ _ _ _ _ _ _ _ _ _ _ _ _ _ _ _ _ _ _ _ _  s (Nat.le_of_eq (ownE_len _ _ _)) (ownE_ok hsk hw))) ?_; rintro _ _ ⟨rfl, rfl⟩
  refine Z40 ?_
  refine cd_cond rfl (fun hb38 => ?_) (fun hb38 => ?_)
  ·have hp38 := hb38
   (try simp only [bn] at hp38)
   exact absurd (show (tb.take u).1 = 0 by simpa using hb38) h0
  have hp38 := hb38
  (try simp only [bn] at hp38)
  refine Z3g ?_
  rw [htp.2.1 h2, hbt]
  exact Z3q
 have hp37 := hb37
 (try simp only [bn] at hp37)
 have h2 : (tb.take u).1 ≠ 2 := by simpa using hb37
 refine Zf ?_
 refine Ze ?_
 refine Z4m ?_
 refine cd_cond rfl (fun hb39 => ?_) (fun hb39 => ?_)
 ·have hp39 := hb39
  (try simp only [bn] at hp39)
  exact absurd (show (tb.take u).1 = 0 by simpa using hb39) h0
 have hp39 := hb39
 (try simp only [bn] at hp39)
 refine Z3g ?_
 rw [hbt, htp.2.2 h0 h2]
 exact Z76

set_option maxRecDepth 100000 in
set_option maxHeartbeats 1000000 in
theorem BKeepN_calls {w0 w : World} {l : List HProp} (pb pt pw pv : Nat) (ao : Option Addr) (c : Nat) (xs : List Val) (n1 n2 n3 n4 n5 n6 n7 n8 n9 n10 n11 : Int) (t : TreeS) (E : Nat → Option Root) (r : Root) (hs : Sat w0 w ((Blk pb (.cells #[.slice ao xs.length c, .int .i64 n1, .int .i64 n2, .int .i64 n3, .int .i64 n4, .int .i64 n5, .int .i64 n6, .int .i64 n7, .int .i64 n8, .int .i64 n9, .int .i64 n10, .int .i64 n11, .pointer (some ⟨pt, 0, none⟩), .pointer (some ⟨pw, 0, none⟩), .pointer (some ⟨pv, 0, none⟩)] 131 (0, 0))) :: (TreeObj pt t) :: (WObj pw pt t.nodes (ownE xs E t.nodes)) :: l)) (hi : idxOf t.nodes r = none) (hsk : StkOK xs) :
  Calls Try.prog 44 #[.pointer (some ⟨pb, 0, none⟩), .agg (rootC r).toArray] w (Ret w0 fun v l' => v = .int .i64 7 ∧ l' = Blk pb (.cells #[.slice ao xs.length c, .int .i64 n1, .int .i64 n2, .int .i64 n3, .int .i64 n4, .int .i64 n5, .int .i64 n6, .int .i64 n7, .int .i64 n8, .int .i64 n9, .int .i64 n10, .int .i64 n11, .pointer (some ⟨pt, 0, none⟩), .pointer (some ⟨pw, 0, none⟩), .pointer (some ⟨pv, 0, none⟩)] 131 (0, 0)) :: TreeObj pt t :: WObj pw pt t.nodes (ownE xs E t.nodes) :: l) := by
 refine calls_enter Try.func44 rfl rfl rfl hs ?_
 refine Zm ?_; intro bx1
 refine Z2g ?_
 refine Z5a ?_
 refine Z2h ?_
 refine cd_pull2 ?_
 refine cd_pull3 ?_
 refine Z7 ?_
 refine cd_draw (M := [_, _]) mx [9] (by kernel_rfl) ?_
 refine Z5 ?_
 refine Z8h ?_
 refine Z62 ?_
 refine Z5 ?_
 refine Z8i ?_
 refine Z8j ?_
 refine Z15 ?_
 refine rg_i (wn_none rfl) (os_pull1 (os_call cb_16 rfl (fun w s => PAllN_calls _ _ _ _ _  s (by assumption)))) rfl rfl ?_; rintro _ _ ⟨rfl, rfl⟩; refine ⟨[_, _], rfl, ?_⟩
 refine Z4d ?_
 refine Z5b ?_
 refine Z5b ?_
 refine Z7a ?_
 refine Z4h ?_
 refine Z4h ?_
 refine Z2m ?_
 refine rg_nil_then2 ?_
 refine Zj ?_
 refine Z4n ?_
 refine cd_cond rfl (fun hb1 => ?_) (fun hb1 => ?_)
 ·have hp1 := hb1
  (try simp only [bn] at hp1)
  refine Z2x ?_
  refine Z13 ?_
  exact px_ret1 rfl (v := .int _ _) rfl (fun _ s => ((((s.del 2).pull 1).pull 1).pull 2)) ⟨rfl, rfl⟩
 have hp1 := hb1
 (try simp only [bn] at hp1)
 exact absurd hb1 (by decide)

set_option maxRecDepth 100000 in
set_option maxHeartbeats 1000000 in
theorem BKeepS_calls {w0 w : World} {l : List HProp} (pb pt pw pv : Nat) (ao : Option Addr) (c : Nat) (xs : List Val) (n1 n2 n3 n4 n5 n6 n7 n8 n9 n10 n11 : Int) (t : TreeS) (E : Nat → Option Root) (r : Root) (a : Nat) (hs : Sat w0 w ((Blk pb (.cells #[.slice ao xs.length c, .int .i64 n1, .int .i64 n2, .int .i64 n3, .int .i64 n4, .int .i64 n5, .int .i64 n6, .int .i64 n7, .int .i64 n8, .int .i64 n9, .int .i64 n10, .int .i64 n11, .pointer (some ⟨pt, 0, none⟩), .pointer (some ⟨pw, 0, none⟩), .pointer (some ⟨pv, 0, none⟩)] 131 (0, 0))) :: (TreeObj pt t) :: (WObj pw pt t.nodes (ownE xs E t.nodes)) :: l)) (hi : idxOf t.nodes r = some a) (hsk : StkOK xs) :
  Calls Try.prog 44 #[.pointer (some ⟨pb, 0, none⟩), .agg (rootC r).toArray] w (Ret w0 fun v l' => ∃ qt qw, v = .int .i64 0 ∧ l' = Blk pb (.cells #[.slice ao xs.length c, .int .i64 n1, .int .i64 n2, .int .i64 n3, .int .i64 n4, .int .i64 n5, .int .i64 n6, .int .i64 n7, .int .i64 n8, .int .i64 n9, .int .i64 n10, .int .i64 n11, .pointer (some ⟨qt, 0, none⟩), .pointer (some ⟨qw, 0, none⟩), .pointer (some ⟨pv, 0, none⟩)] 131 (0, 0)) :: TreeObj qt (prT t a) :: WObj qw qt (prT t a).nodes (ownE xs E (prT t a).nodes) :: l) := by
 have hw := hs.drop.treeWF
 refine calls_enter Try.func44 rfl rfl rfl hs ?_
 refine Zm ?_; intro bx1
 refine Z2g ?_
 refine Z5a ?_
 refine Z2h ?_
 refine cd_pull2 ?_
 refine cd_pull3 ?_
 refine Z7 ?_
 refine cd_draw (M := [_, _]) mx [9] (by kernel_rfl) ?_
 refine Z5 ?_
 refine Z8h ?_
 refine Z62 ?_
 refine Z5 ?_
 refine Z8i ?_
 refine Z8j ?_
 refine Z15 ?_
 refine rg_i (wn_none rfl) (os_pull1 (os_call cb_16 rfl (fun w s => PAllS_calls _ _ _ _ _ _  s hi (Nat.le_of_eq (ownE_len _ _ _)) (ownE_ok hsk hw)))) rfl rfl ?_; rintro _ _ ⟨pq1, qw1, rfl, rfl⟩; rw [pr_ownE hw a]; refine ⟨[_, _, _, _], rfl, ?_⟩
 refine Z4d ?_
 refine Z5b ?_
 refine Z5b ?_
 refine Z7a ?_
 refine Z4h ?_
 refine Z4h ?_
 refine Z2m ?_
 refine rg_nil_then4 ?_
 refine Zj ?_
 refine Z4n ?_
 refine cd_cond rfl (fun hb1 => ?_) (fun hb1 => ?_)
 ·have hp1 := hb1
  (try simp only [bn] at hp1)
  exact absurd hb1 (by decide)
 have hp1 := hb1
 (try simp only [bn] at hp1)
 refine Zn ?_
 refine Z32 ?_
 refine Z29 ?_
 refine Z29 ?_
 refine Z18 ?_
 refine oq (op_field fld_131_1 rfl) ?_
 refine ol_pull5 ?_
 refine oN (os_store (v := .pointer _) sc_26 rfl rfl rfl rfl (Free.zero _) rfl) ?_; rintro _ _ ⟨rfl, rfl⟩
 refine Z18 ?_
 refine oq (op_field fld_131_2 rfl) ?_
 refine oN (os_store (v := .pointer _) sc_27 rfl rfl rfl rfl (Free.zero _) rfl) ?_; rintro _ _ ⟨rfl, rfl⟩
 refine Z2 ?_
 refine Z19 ?_
 exact px_ret1 rfl (v := .int _ _) rfl (fun _ s => (((s.del 5).del 4).del 3)) ⟨_, _, rfl, rfl⟩

set_option maxRecDepth 100000 in
set_option maxHeartbeats 1000000 in
theorem BForget_calls {w0 w : World} {l : List HProp} (pb pt pw pv : Nat) (ao : Option Addr) (c : Nat) (xs : List Val) (n1 n2 n3 n4 n5 n6 n7 n8 n9 n10 n11 : Int) (tb : TabS) (slot : Int) (hs : Sat w0 w ((Blk pb (.cells #[.slice ao xs.length c, .int .i64 n1, .int .i64 n2, .int .i64 n3, .int .i64 n4, .int .i64 n5, .int .i64 n6, .int .i64 n7, .int .i64 n8, .int .i64 n9, .int .i64 n10, .int .i64 n11, .pointer (some ⟨pt, 0, none⟩), .pointer (some ⟨pw, 0, none⟩), .pointer (some ⟨pv, 0, none⟩)] 131 (0, 0))) :: (TabObj pv tb) :: l)) (hs0 : slot ≤ 9223372036854775807) :
  Calls Try.prog 70 #[.pointer (some ⟨pb, 0, none⟩), .int .i64 slot] w (Ret w0 fun v l' => v = .tuple #[] ∧ l' = Blk pb (.cells #[.slice ao xs.length c, .int .i64 n1, .int .i64 n2, .int .i64 n3, .int .i64 n4, .int .i64 n5, .int .i64 n6, .int .i64 n7, .int .i64 n8, .int .i64 n9, .int .i64 n10, .int .i64 n11, .pointer (some ⟨pt, 0, none⟩), .pointer (some ⟨pw, 0, none⟩), .pointer (some ⟨pv, 0, none⟩)] 131 (0, 0)) :: TabObj pv (tb.forget slot) :: l) := by
 refine calls_enter Try.func70 rfl rfl rfl hs ?_
 refine Zc ?_
 refine oq (op_nenil Try.underlying67 rfl rfl) ?_
 refine Z26 ?_
 refine Z5c ?_
 refine Z18 ?_
 refine oq (op_field fld_131_3 rfl) ?_
 refine oq (op_ld 0 sc_79 rfl rfl rfl) ?_
 refine Z4 ?_
 refine Za ?_
 refine oi (os_call cb_92 rfl (fun w s => Forget_calls _ _ _  s (by omega))) ?_; rintro _ _ ⟨rfl, rfl⟩
 refine ol_nil ?_
 exact px_end0 rfl (fun _ s => (s.pull 1)) ⟨rfl, rfl⟩

set_option maxRecDepth 100000 in
set_option maxHeartbeats 1000000 in
theorem BHead_calls {w0 w : World} {l : List HProp} (pb pt pw pv : Nat) (ao : Option Addr) (c : Nat) (xs : List Val) (n1 n2 n3 n4 n5 n6 n7 n8 n9 n10 n11 : Int) (t : TreeS) (o : List Int) (hs : Sat w0 w ((Blk pb (.cells #[.slice ao xs.length c, .int .i64 n1, .int .i64 n2, .int .i64 n3, .int .i64 n4, .int .i64 n5, .int .i64 n6, .int .i64 n7, .int .i64 n8, .int .i64 n9, .int .i64 n10, .int .i64 n11, .pointer (some ⟨pt, 0, none⟩), .pointer (some ⟨pw, 0, none⟩), .pointer (some ⟨pv, 0, none⟩)] 131 (0, 0))) :: (TreeObj pt t) :: (WObj pw pt t.nodes o) :: l)) (h1 : o.length ≤ t.nodes.length) (h0 : 0 < o.length) :
  Calls Try.prog 38 #[.pointer (some ⟨pb, 0, none⟩)] w (Ret w0 fun v l' => v = .agg (rootC (headW t.nodes o)).toArray ∧ l' = Blk pb (.cells #[.slice ao xs.length c, .int .i64 n1, .int .i64 n2, .int .i64 n3, .int .i64 n4, .int .i64 n5, .int .i64 n6, .int .i64 n7, .int .i64 n8, .int .i64 n9, .int .i64 n10, .int .i64 n11, .pointer (some ⟨pt, 0, none⟩), .pointer (some ⟨pw, 0, none⟩), .pointer (some ⟨pv, 0, none⟩)] 131 (0, 0)) :: TreeObj pt t :: WObj pw pt t.nodes o :: l) := by
 refine calls_enter Try.func38 rfl rfl rfl hs ?_
 refine Z1 ?_
 refine Z20 ?_; intro bx1
 refine Zs ?_
 refine Zc ?_
 refine Z5a ?_
 refine Z2h ?_
 refine Zt ?_
 refine oq (op_field fld_131_2 rfl) ?_
 refine oq (op_ld 1 sc_27 rfl rfl rfl) ?_
 refine Zr ?_
 refine Zr ?_
 refine oi (os_call cb_22 rfl (fun w s => Head_calls _ _ _ _  s (by first | assumption | omega) (by first | assumption | omega))) ?_; rintro _ _ ⟨rfl, rfl⟩
 refine ol_pull2 ?_
 refine Z45 ?_
 exact px_rv1 rfl (rv_cella 0 ag_24 rfl rfl (rootC_take' _) (by simp [rootC_len])) (l' := Blk pb (.cells #[.slice ao xs.length c, .int .i64 n1, .int .i64 n2, .int .i64 n3, .int .i64 n4, .int .i64 n5, .int .i64 n6, .int .i64 n7, .int .i64 n8, .int .i64 n9, .int .i64 n10, .int .i64 n11, .pointer (some ⟨pt, 0, none⟩), .pointer (some ⟨pw, 0, none⟩), .pointer (some ⟨pv, 0, none⟩)] 131 (0, 0)) :: TreeObj pt t :: WObj pw pt t.nodes o :: l) (fun _ s => ((((s.del 0).pull 1).pull 1).pull 2)) ⟨rfl, rfl⟩

set_option maxRecDepth 100000 in
set_option maxHeartbeats 1000000 in
theorem BWeight_calls {w0 w : World} {l : List HProp} (pb pt pw pv : Nat) (ao : Option Addr) (c : Nat) (xs : List Val) (n1 n2 n3 n4 n5 n6 n7 n8 n9 n10 n11 : Int) (t : TreeS) (o : List Int) (r : Root) (hs : Sat w0 w ((Blk pb (.cells #[.slice ao xs.length c, .int .i64 n1, .int .i64 n2, .int .i64 n3, .int .i64 n4, .int .i64 n5, .int .i64 n6, .int .i64 n7, .int .i64 n8, .int .i64 n9, .int .i64 n10, .int .i64 n11, .pointer (some ⟨pt, 0, none⟩), .pointer (some ⟨pw, 0, none⟩), .pointer (some ⟨pv, 0, none⟩)] 131 (0, 0))) :: (TreeObj pt t) :: (WObj pw pt t.nodes o) :: l))  :
  Calls Try.prog 37 #[.pointer (some ⟨pb, 0, none⟩), .agg (rootC r).toArray] w (Ret w0 fun v l' => v = .int .i64 (ofF t o.length (sumN t.nodes o) r) ∧ l' = Blk pb (.cells #[.slice ao xs.length c, .int .i64 n1, .int .i64 n2, .int .i64 n3, .int .i64 n4, .int .i64 n5, .int .i64 n6, .int .i64 n7, .int .i64 n8, .int .i64 n9, .int .i64 n10, .int .i64 n11, .pointer (some ⟨pt, 0, none⟩), .pointer (some ⟨pw, 0, none⟩), .pointer (some ⟨pv, 0, none⟩)] 131 (0, 0)) :: TreeObj pt t :: WObj pw pt t.nodes o :: l) := by
 refine calls_enter Try.func37 rfl rfl rfl hs ?_
 refine Zm ?_; intro bx1
 refine Z2g ?_
 refine Z5a ?_
 refine Z44 ?_
 refine Zf ?_
 refine Z7t ?_
 refine Z5 ?_
 refine Z8i ?_
 refine Z8j ?_
 refine Z15 ?_
 refine rg_i (wn_none rfl) (os_back (os_pull3 (os_pull3 (os_call cb_28 rfl (fun w s => Weight_calls _ _ _ _ _  s )))) (fun _ s => ((((s.pull 1).pull 1).pull 3).pull 3))) rfl rfl ?_; rintro _ _ ⟨rfl, rfl⟩; refine ⟨[], rfl, ?_⟩
 refine Z39 ?_
 refine cd_ret ?_
 exact px_ret1 rfl (v := .int _ _) rfl (fun _ s => (s.del 0)) ⟨rfl, rfl⟩

set_option maxRecDepth 100000 in
set_option maxHeartbeats 1000000 in
theorem BTree_calls {w0 w : World} {l : List HProp} (pb pt pw pv : Nat) (ao : Option Addr) (c : Nat) (xs : List Val) (n1 n2 n3 n4 n5 n6 n7 n8 n9 n10 n11 : Int) (hs : Sat w0 w ((Blk pb (.cells #[.slice ao xs.length c, .int .i64 n1, .int .i64 n2, .int .i64 n3, .int .i64 n4, .int .i64 n5, .int .i64 n6, .int .i64 n7, .int .i64 n8, .int .i64 n9, .int .i64 n10, .int .i64 n11, .pointer (some ⟨pt, 0, none⟩), .pointer (some ⟨pw, 0, none⟩), .pointer (some ⟨pv, 0, none⟩)] 131 (0, 0))) :: l))  :
  Calls Try.prog 36 #[.pointer (some ⟨pb, 0, none⟩)] w (Ret w0 fun v l' => v = .pointer (some ⟨pt, 0, none⟩) ∧ l' = Blk pb (.cells #[.slice ao xs.length c, .int .i64 n1, .int .i64 n2, .int .i64 n3, .int .i64 n4, .int .i64 n5, .int .i64 n6, .int .i64 n7, .int .i64 n8, .int .i64 n9, .int .i64 n10, .int .i64 n11, .pointer (some ⟨pt, 0, none⟩), .pointer (some ⟨pw, 0, none⟩), .pointer (some ⟨pv, 0, none⟩)] 131 (0, 0)) :: l) := by
 refine calls_enter Try.func36 rfl rfl rfl hs ?_
 refine Z2q ?_
 refine Zs ?_
 refine Zc ?_
 refine Z5a ?_
 refine Z2h ?_
 refine Zt ?_
 refine oq (op_field fld_131_1 rfl) ?_
 refine oq (op_ld 0 sc_26 rfl rfl rfl) ?_
 refine Zh ?_
 refine Z1s ?_
 exact px_ret1 rfl (v := .pointer _) rfl (fun _ s => s) ⟨rfl, rfl⟩

set_option maxRecDepth 100000 in
set_option maxHeartbeats 1000000 in
theorem BTable_calls {w0 w : World} {l : List HProp} (pb pt pw pv : Nat) (ao : Option Addr) (c : Nat) (xs : List Val) (n1 n2 n3 n4 n5 n6 n7 n8 n9 n10 n11 : Int) (hs : Sat w0 w ((Blk pb (.cells #[.slice ao xs.length c, .int .i64 n1, .int .i64 n2, .int .i64 n3, .int .i64 n4, .int .i64 n5, .int .i64 n6, .int .i64 n7, .int .i64 n8, .int .i64 n9, .int .i64 n10, .int .i64 n11, .pointer (some ⟨pt, 0, none⟩), .pointer (some ⟨pw, 0, none⟩), .pointer (some ⟨pv, 0, none⟩)] 131 (0, 0))) :: l))  :
  Calls Try.prog 39 #[.pointer (some ⟨pb, 0, none⟩)] w (Ret w0 fun v l' => v = .pointer (some ⟨pv, 0, none⟩) ∧ l' = Blk pb (.cells #[.slice ao xs.length c, .int .i64 n1, .int .i64 n2, .int .i64 n3, .int .i64 n4, .int .i64 n5, .int .i64 n6, .int .i64 n7, .int .i64 n8, .int .i64 n9, .int .i64 n10, .int .i64 n11, .pointer (some ⟨pt, 0, none⟩), .pointer (some ⟨pw, 0, none⟩), .pointer (some ⟨pv, 0, none⟩)] 131 (0, 0)) :: l) := by
 refine calls_enter Try.func39 rfl rfl rfl hs ?_
 refine Z2q ?_
 refine Zs ?_
 refine Zc ?_
 refine Z5a ?_
 refine Z2h ?_
 refine Zt ?_
 refine oq (op_field fld_131_3 rfl) ?_
 refine oq (op_ld 0 sc_79 rfl rfl rfl) ?_
 refine Zh ?_
 refine Z1s ?_
 exact px_ret1 rfl (v := .pointer _) rfl (fun _ s => s) ⟨rfl, rfl⟩
end Go.SL

set_option linter.unusedVariables false
set_option linter.unusedSimpArgs false
namespace Go.SL
theorem goodC_bd {V : SlV} {a0 a1 a2 a3 a4 a5 a6 a7 a8 a9 a10 : Int} {xs : List Val} (h : goodC ⟨V, a0, a1, a2, a3, a4, a5, a6, a7, a8, a9, a10⟩ xs = true) :
    ((1 ≤ a0 ∧ a0 ≤ 32) ∧ (1 ≤ a1 ∧ a1 ≤ 16 ∧ a1 ≤ xs.length) ∧ (1 ≤ a2 ∧ a2 ≤ 256) ∧ (1 ≤ a3 ∧ a3 ≤ 64) ∧ (1 ≤ a4 ∧ a4 ≤ 64) ∧ (1 ≤ a5 ∧ a5 ≤ 64)) ∧ ((1 ≤ a6 ∧ a6 ≤ 16) ∧ (1 ≤ a7 ∧ a7 ≤ 256) ∧ (1 ≤ a8 ∧ a8 ≤ 64) ∧ (1 ≤ a9 ∧ a9 ≤ 1048576) ∧ (1 ≤ a10 ∧ a10 ≤ 1048576)) ∧ (1 ≤ xs.length ∧ xs.length ≤ 64) ∧ (∀ y ∈ xs, y.key.length ≤ 32) := by
  have hv := (goodC_rg h).2.2
  unfold goodC numsC inR at h
  simp at h
  refine ⟨by omega, by omega, by omega, fun y hy => ?_⟩
  have := hv y hy
  unfold valOK at this
  have := of_decide_eq_true this
  exact this.2.2
theorem sg_stk (xs : List Val) : ∀ k, k ≤ xs.length → sg (stk xs) k = sumV (xs.take k) := by
  intro k
  induction k with
  | zero => intro _; rfl
  | succ k ih =>
    intro hk
    rw [sg_succ, ih (by omega), List.take_succ_eq_append_getElem (by omega), sumV_append, stk_get (by omega)]
    simp [sumV]
theorem goodC_stk {q : Cfg} {xs : List Val} (h : goodC q xs = true) : StkOK xs := by
  have h1 : (totF 0 xs).isSome = true := by unfold goodC at h; rw [Bool.and_eq_true] at h; exact h.1
  have h2 := totF_iff (xs := xs) (s := 0) (by decide) (by decide)
  have h3 : (∀ v ∈ xs, valOK v = true) ∧ 0 + sumV xs < 4611686018427387904 := by
    by_cases e : (∀ v ∈ xs, valOK v = true) ∧ 0 + sumV xs < 4611686018427387904
    · exact e
    · rw [if_neg e] at h2; rw [h2] at h1; cases h1
  refine ⟨fun w => ?_, ?_⟩
  · rcases Nat.lt_or_ge w xs.length with hw | hw
    · rw [stk_get hw]
      have := h3.1 _ (List.getElem_mem hw)
      unfold valOK at this
      exact (of_decide_eq_true this).1
    · unfold stk
      rw [List.getD_eq_getElem?_getD, List.getElem?_eq_none hw]
      show (0 : Int) ≤ 0
      omega
  · rw [sg_stk xs _ (Nat.le_refl _), List.take_length]; have := h3.2; omega
theorem newB_own {xs : List Val} {g : Root} {nodes ep : Int} {n : Nat} : ownE xs (effT (TabS.new n ep)) (TreeS.new g 0 nodes).nodes = growO (TreeS.new g 0 nodes).nodes.length [] := by
  rw [new_eff]; exact ownE_none _
end Go.SL

set_option linter.unusedVariables false
set_option linter.unusedSimpArgs false
namespace Go.SL
theorem rt_of_idx {t : TreeS} {r : Root} {b : Nat} (h : idxOf t.nodes r = some b) : rtA t.nodes b = r := by
  obtain ⟨n, h1, h2⟩ := idxOf_some h
  unfold rtA; rw [h1]; exact h2
theorem below_rt {t : TreeS} (hw : t.WF) {a i : Nat} {o : Root} (hia : idxOf t.nodes o = some a) (hi : i < t.nodes.length) : t.below o (rtA t.nodes i) = belI t.nodes a (i : Int) := by
  rw [← rt_of_idx hia]; exact below_at hw (idxOf_lt hia) hi
def alM : List PBlk := [⟨1, 0, 1, 5⟩, ⟨2, 0, 1, 3⟩, ⟨3, 1, 2, 4⟩]
end Go.SL

set_option linter.unusedVariables false
set_option linter.unusedSimpArgs false
namespace Go.SL
open Go.Proofs

/-- the reference's weights: their block and row -/
def RWObj (pm pr : Nat) (o : List Int) : HProp := ex fun x : Option Addr × Nat => match x with | (a4, c4) => stars [Blk pm (.cells #[.pointer (some ⟨pr, 0, none⟩), .slice a4 o.length c4, .int .i64 (o.length : Int)] 47 (0, 0)), Row 3 encI64 (.slice a4 o.length c4) o]
theorem Sat.rwOpen {w0 w : World} {l : List HProp} {pm pr : Nat} {o : List Int} (s : Sat w0 w (RWObj pm pr o :: l)) : ∃ a4 c4, Sat w0 w (Blk pm (.cells #[.pointer (some ⟨pr, 0, none⟩), .slice a4 o.length c4, .int .i64 (o.length : Int)] 47 (0, 0)) :: Row 3 encI64 (.slice a4 o.length c4) o :: l) := by
 obtain ⟨⟨a4, c4⟩, s⟩ := Sat.ex_iff.1 s
 exact ⟨a4, c4, Sat.stars_iff.1 s⟩
theorem Sat.rwMk {w0 w : World} {l : List HProp} {pm pr : Nat} {o : List Int} {a4 : Option Addr} {c4 m1 m2 : Nat} (h1 : m1 = o.length) (h2 : m2 = o.length) (s : Sat w0 w (Blk pm (.cells #[.pointer (some ⟨pr, 0, none⟩), .slice a4 m1 c4, .int .i64 (m2 : Int)] 47 (0, 0)) :: Row 3 encI64 (.slice a4 m1 c4) o :: l)) : Sat w0 w (RWObj pm pr o :: l) := by
 subst h1 h2
 exact Sat.ex_iff.2 ⟨(a4, c4), Sat.stars_iff.2 s⟩

set_option maxRecDepth 100000 in
set_option maxHeartbeats 1000000 in
theorem RplW_calls {w0 w : World} {l : List HProp} (pm pr : Nat) (t : TreeS) (a1 a2 a3 a4 : Option Addr) (c1 c2 c3 c4 : Nat) (R : List Root) (Sl : List Int) (Pa : List Root) (o : List Int) (r : Root) (hs : Sat w0 w ((Blk pr (.cells #[.slice a1 R.length c1, .slice a2 Sl.length c2, .slice a3 Pa.length c3, .int .i64 t.most] 44 (0, 0))) :: (Row 24 encRoot (.slice a1 R.length c1) R) :: (Row 3 encI64 (.slice a2 Sl.length c2) Sl) :: (Row 24 encRoot (.slice a3 Pa.length c3) Pa) :: (Blk pm (.cells #[.pointer (some ⟨pr, 0, none⟩), .slice a4 o.length c4, .int .i64 (o.length : Int)] 47 (0, 0))) :: (Row 3 encI64 (.slice a4 o.length c4) o) :: l)) (hw : t.WF) (hR : RTreeOf t R Sl Pa) (h1 : o.length ≤ t.nodes.length) :
  Calls Try.prog 59 #[.pointer (some ⟨pm, 0, none⟩), .agg (rootC r).toArray] w (Ret w0 fun v l' => v = .int .i64 (rplW t o.length r) ∧ l' = Blk pr (.cells #[.slice a1 R.length c1, .slice a2 Sl.length c2, .slice a3 Pa.length c3, .int .i64 t.most] 44 (0, 0)) :: Row 24 encRoot (.slice a1 R.length c1) R :: Row 3 encI64 (.slice a2 Sl.length c2) Sl :: Row 24 encRoot (.slice a3 Pa.length c3) Pa :: Blk pm (.cells #[.pointer (some ⟨pr, 0, none⟩), .slice a4 o.length c4, .int .i64 (o.length : Int)] 47 (0, 0)) :: Row 3 encI64 (.slice a4 o.length c4) o :: l) := by
 have hle := hw.le; have hm2 := hw.m2; have hpa := hw.pa; have hnd := hw.nd
 have hRl : R.length = t.nodes.length := by rw [hR.r, List.length_map]
 have hSl : Sl.length = t.nodes.length := by rw [hR.s, List.length_map]
 have hPl : Pa.length = t.nodes.length := by rw [hR.p]; unfold parR; rw [List.length_map]
 have hpl : ∀ r, rplace R r = t.place r := fun r => by rw [hR.r, rplace_map]
 refine calls_enter Try.func59 rfl rfl rfl hs ?_
 refine Zm ?_; intro bx1
 refine Z5u ?_
 refine Z7t ?_
 refine Z5 ?_
 refine Z7u ?_
 refine rg_q (wn_none rfl) (op_ld 5 sc_45 rfl rfl rfl) rfl rfl ?_
 refine Z15 ?_
 refine rg_i (wn_none rfl) (os_back (os_pull2 (os_pull2 (os_call cb_49 rfl (fun w s => RPlaceO_calls _ _ _ _ _ _ _ _  s )))) (fun _ s => (((((((s.pull 6).pull 6).pull 6).pull 6).pull 5).pull 5).pull 6))) rfl rfl ?_; rintro _ _ ⟨rfl, rfl⟩; rw [hpl]; refine ⟨[], rfl, ?_⟩
 refine Z39 ?_
 refine Zj ?_
 refine Z29 ?_
 refine Z18 ?_
 refine oq (op_field fld_47_2 rfl) ?_
 refine oq (op_ld 5 sc_3 rfl rfl rfl) ?_
 refine Z3a ?_
 refine cd_cond rfl (fun hb1 => ?_) (fun hb1 => ?_)
 ·have hp1 := hb1
  (try simp only [bn] at hp1)
  refine Z1x ?_
  exact px_ret1 rfl (v := .int _ _) rfl (fun _ s => (s.del 0)) ⟨congrArg (Value.int .i64) (by unfold rplW; rw [if_pos (by omega)]), rfl⟩
 have hp1 := hb1
 (try simp only [bn] at hp1)
 refine Z3g ?_
 exact px_ret1 rfl (v := .int _ _) rfl (fun _ s => (s.del 0)) ⟨congrArg (Value.int .i64) (by unfold rplW; rw [if_neg (by omega)]), rfl⟩

end Go.SL

set_option linter.unusedVariables false
set_option linter.unusedSimpArgs false
namespace Go.SL
open Go.Proofs

set_option maxRecDepth 100000 in
set_option maxHeartbeats 1000000 in
theorem RWNew_calls {w0 w : World} {l : List HProp} (pr : Nat) (t : TreeS) (hs : Sat w0 w ((RTreeObj pr t) :: l))  :
  Calls Try.prog 51 #[.pointer (some ⟨pr, 0, none⟩)] w (Ret w0 fun v l' => ∃ pm, v = .pointer (some ⟨pm, 0, none⟩) ∧ l' = RWObj pm pr (growO t.nodes.length []) :: RTreeObj pr t :: l) := by
 obtain ⟨a1, c1, a2, c2, a3, c3, R, Sl, Pa, hw, hR, hs⟩ := hs.rtreeOpen
 have hle := hw.le; have hm2 := hw.m2; have hpa := hw.pa; have hnd := hw.nd
 have hRl : R.length = t.nodes.length := by rw [hR.r, List.length_map]
 have hSl : Sl.length = t.nodes.length := by rw [hR.s, List.length_map]
 have hPl : Pa.length = t.nodes.length := by rw [hR.p]; unfold parR; rw [List.length_map]
 have hpl : ∀ r, rplace R r = t.place r := fun r => by rw [hR.r, rplace_map]
 refine calls_enter Try.func51 rfl rfl rfl hs ?_
 refine Z2q ?_
 refine Zs ?_
 refine cd_drawt (M := []) mx [6] 13 (by kernel_rfl) rfl rfl ?_
 dsimp only [List.take_succ_cons, List.take_zero, List.drop_succ_cons, List.drop_zero]
 refine Zi ?_
 refine Z5 ?_
 refine Z63 ?_
 refine Z64 ?_
 refine rg_q (wn_none rfl) (op_len_slice Try.underlying37 rfl) rfl rfl ?_
 refine rg_i (wn_none rfl) (os_make (E := encI64) (R.length) (0) sB_42 zv_3 rfl rfl rfl rfl (by omega) (by unfold maxLen; omega)) rfl rfl ?_; rintro _ _ ⟨ao1, rfl, rfl⟩; refine ⟨[_], rfl, ?_⟩
 refine Z5 ?_
 refine Z63 ?_
 refine Z64 ?_
 refine rg_q (wn_none rfl) (op_len_slice Try.underlying37 rfl) rfl rfl ?_
 refine rg_q (wn_none rfl) (op_build (L := [_, _, _]) (vs := [(0, .pointer _), (1, .slice _ _ _), (2, .int _ _)]) bB_47 rfl ⟨⟨rfl, rfl⟩, ⟨rfl, rfl⟩, ⟨rfl, rfl⟩, trivial⟩ rfl) rfl rfl ?_
 refine rg_tail1 ?_
 refine Z2c ?_; intro bx1
 refine Zh ?_
 refine Z1s ?_
 exact px_ret1 rfl (v := .pointer _) (l' := RWObj bx1 pr (growO t.nodes.length []) :: RTreeObj pr t :: l) rfl (fun _ s => by
  have s2 : Sat _ _ (Blk pr (.cells #[.slice a1 R.length c1, .slice a2 Sl.length c2, .slice a3 Pa.length c3, .int .i64 t.most] 44 (0, 0)) :: Row 24 encRoot (.slice a1 R.length c1) R :: Row 3 encI64 (.slice a2 Sl.length c2) Sl :: Row 24 encRoot (.slice a3 Pa.length c3) Pa :: Blk bx1 _ :: Row _ _ _ _ :: l) := ((((((s.pull 1).pull 1).pull 5).pull 5).pull 5).pull 5)
  have s3 := Sat.rtreeMk hw hR rfl rfl rfl s2
  have s4 : Sat _ _ (RWObj bx1 pr (growO t.nodes.length []) :: RTreeObj pr t :: l) := Sat.rwMk (m1 := (List.replicate R.length (0 : Int)).length) (m2 := R.length) (by rw [hRl]; simp [growO]) (by rw [hRl]; simp [growO]) (by have s5 := (s3.pull 2).pull 2; rw [show growO t.nodes.length [] = List.replicate R.length 0 by rw [hRl]; rfl]; exact s5)
  exact s4) ⟨_, rfl, rfl⟩

end Go.SL

set_option linter.unusedVariables false
set_option linter.unusedSimpArgs false
namespace Go.SL
open Go.Proofs

theorem cd_rwOpen {w0 : World} {n : Nat} {Q : Exit → Act → World → Prop} {f : Fr} {c : Code} {l : List HProp} {pm pr : Nat} {o : List Int} (h : ∀ a4 c4, CD Try.prog w0 n c Q f (Blk pm (.cells #[.pointer (some ⟨pr, 0, none⟩), .slice a4 o.length c4, .int .i64 (o.length : Int)] 47 (0, 0)) :: Row 3 encI64 (.slice a4 o.length c4) o :: l)) : CD Try.prog w0 n c Q f (RWObj pm pr o :: l) := fun a w r s =>
 let ⟨a4, c4, s'⟩ := s.rwOpen
 h a4 c4 a w r s'
theorem cd_rtreeOpen {w0 : World} {n : Nat} {Q : Exit → Act → World → Prop} {f : Fr} {c : Code} {l : List HProp} {pr : Nat} {t : TreeS} (h : ∀ a1 c1 a2 c2 a3 c3 R Sl Pa, t.WF → RTreeOf t R Sl Pa → CD Try.prog w0 n c Q f (Blk pr (.cells #[.slice a1 R.length c1, .slice a2 Sl.length c2, .slice a3 Pa.length c3, .int .i64 t.most] 44 (0, 0)) :: Row 24 encRoot (.slice a1 R.length c1) R :: Row 3 encI64 (.slice a2 Sl.length c2) Sl :: Row 24 encRoot (.slice a3 Pa.length c3) Pa :: l)) : CD Try.prog w0 n c Q f (RTreeObj pr t :: l) := fun a w r s =>
 let ⟨a1, c1, a2, c2, a3, c3, R, Sl, Pa, hw, hR, s'⟩ := s.rtreeOpen
 h a1 c1 a2 c2 a3 c3 R Sl Pa hw hR a w r s'
theorem Sat.rwtPack {w0 w : World} {l : List HProp} {pm pr : Nat} {t : TreeS} {a1 a2 a3 a4 : Option Addr} {c1 c2 c3 c4 : Nat} {R : List Root} {Sl : List Int} {Pa : List Root} {o : List Int} (hw : t.WF) (hR : RTreeOf t R Sl Pa) (s : Sat w0 w (Blk pm (.cells #[.pointer (some ⟨pr, 0, none⟩), .slice a4 o.length c4, .int .i64 (o.length : Int)] 47 (0, 0)) :: Row 3 encI64 (.slice a4 o.length c4) o :: Blk pr (.cells #[.slice a1 R.length c1, .slice a2 Sl.length c2, .slice a3 Pa.length c3, .int .i64 t.most] 44 (0, 0)) :: Row 24 encRoot (.slice a1 R.length c1) R :: Row 3 encI64 (.slice a2 Sl.length c2) Sl :: Row 24 encRoot (.slice a3 Pa.length c3) Pa :: l)) : Sat w0 w (RTreeObj pr t :: RWObj pm pr o :: l) := by
 have s2 : Sat _ _ (RWObj pm pr o :: Blk pr (.cells #[.slice a1 R.length c1, .slice a2 Sl.length c2, .slice a3 Pa.length c3, .int .i64 t.most] 44 (0, 0)) :: Row 24 encRoot (.slice a1 R.length c1) R :: Row 3 encI64 (.slice a2 Sl.length c2) Sl :: Row 24 encRoot (.slice a3 Pa.length c3) Pa :: l) := Sat.rwMk rfl rfl s
 have s3 : Sat _ _ (Blk pr (.cells #[.slice a1 R.length c1, .slice a2 Sl.length c2, .slice a3 Pa.length c3, .int .i64 t.most] 44 (0, 0)) :: Row 24 encRoot (.slice a1 R.length c1) R :: Row 3 encI64 (.slice a2 Sl.length c2) Sl :: Row 24 encRoot (.slice a3 Pa.length c3) Pa :: RWObj pm pr o :: l) := (((s2.pull 4).pull 4).pull 4).pull 4
 exact Sat.rtreeMk hw hR rfl rfl rfl s3

set_option maxRecDepth 100000 in
set_option maxHeartbeats 1000000 in
theorem ROwnOfO_calls {w0 w : World} {l : List HProp} (pm pr : Nat) (t : TreeS) (a1 a2 a3 a4 : Option Addr) (c1 c2 c3 c4 : Nat) (R : List Root) (Sl : List Int) (Pa : List Root) (o : List Int) (r : Root) (hs : Sat w0 w ((Blk pr (.cells #[.slice a1 R.length c1, .slice a2 Sl.length c2, .slice a3 Pa.length c3, .int .i64 t.most] 44 (0, 0))) :: (Row 24 encRoot (.slice a1 R.length c1) R) :: (Row 3 encI64 (.slice a2 Sl.length c2) Sl) :: (Row 24 encRoot (.slice a3 Pa.length c3) Pa) :: (Blk pm (.cells #[.pointer (some ⟨pr, 0, none⟩), .slice a4 o.length c4, .int .i64 (o.length : Int)] 47 (0, 0))) :: (Row 3 encI64 (.slice a4 o.length c4) o) :: l)) (hw : t.WF) (hR : RTreeOf t R Sl Pa) (h1 : o.length ≤ t.nodes.length) :
  Calls Try.prog 27 #[.pointer (some ⟨pm, 0, none⟩), .agg (rootC r).toArray] w (Ret w0 fun v l' => v = .int .i64 (ofF t o.length (oA o) r) ∧ l' = Blk pr (.cells #[.slice a1 R.length c1, .slice a2 Sl.length c2, .slice a3 Pa.length c3, .int .i64 t.most] 44 (0, 0)) :: Row 24 encRoot (.slice a1 R.length c1) R :: Row 3 encI64 (.slice a2 Sl.length c2) Sl :: Row 24 encRoot (.slice a3 Pa.length c3) Pa :: Blk pm (.cells #[.pointer (some ⟨pr, 0, none⟩), .slice a4 o.length c4, .int .i64 (o.length : Int)] 47 (0, 0)) :: Row 3 encI64 (.slice a4 o.length c4) o :: l) := by
 have hle := hw.le; have hm2 := hw.m2; have hpa := hw.pa; have hnd := hw.nd; have hne := hw.ne
 have hRl : R.length = t.nodes.length := by rw [hR.r, List.length_map]
 have hSl : Sl.length = t.nodes.length := by rw [hR.s, List.length_map]
 have hPl : Pa.length = t.nodes.length := by rw [hR.p]; unfold parR; rw [List.length_map]
 have hpl : ∀ r, rplace R r = t.place r := fun r => by rw [hR.r, rplace_map]
 have hrp := ofF_rpl (t := t) (n := o.length) (f := (oA o)) (r := r)
 refine calls_enter Try.func27 rfl rfl rfl hs ?_
 refine Zm ?_; intro bx1
 refine Z2g ?_
 refine Z2b ?_
 refine Z22 ?_
 refine Z22 ?_
 refine Z22 ?_
 refine Z22 ?_
 refine Z22 ?_
 refine Z22 ?_
 refine oi (os_call cb_59 rfl (fun w s => RplW_calls _ _ _ _ _ _ _ _ _ _ _ _ _ _ _ _  s (by assumption) (by assumption) (by assumption))) ?_; rintro _ _ ⟨rfl, rfl⟩
 refine Z1q ?_
 refine Z3a ?_
 refine cd_cond rfl (fun hb1 => ?_) (fun hb1 => ?_)
 ·have hp1 := hb1
  (try simp only [bn] at hp1)
  obtain ⟨i, hri, hin, hof⟩ : ∃ i : Nat, rplW t o.length r = i ∧ i < o.length ∧ ofF t o.length (oA o) r = (oA o) i := by
   rcases hrp with ⟨h, _⟩ | h
   ·omega
   exact h
  rw [hri]
  refine Zt ?_
  refine oq (op_field fld_47_1 rfl) ?_
  refine oq (op_ld 4 sc_42 rfl rfl rfl) ?_
  refine Z4 ?_
  refine oq (op_index i sB_42 rfl rfl rfl (rds_row 5 rfl rfl) rfl (by omega)) ?_
  refine oq (op_ldw sc_3 (rds_row 5 rfl rfl) rfl (by omega) rfl) ?_
  refine Zw ?_
  refine Z13 ?_
  exact px_ret1 rfl (v := .int _ _) rfl (fun _ s => (s.del 6)) ⟨congrArg (Value.int .i64) (by rw [hof]; exact (oA_get _).symm), rfl⟩
 have hp1 := hb1
 (try simp only [bn] at hp1)
 refine Zn ?_
 refine Z19 ?_
 exact px_ret1 rfl (v := .int _ _) rfl (fun _ s => (s.del 6)) ⟨congrArg (Value.int .i64) (by rcases hrp with ⟨_, h⟩ | ⟨i, h, _⟩; exact h.symm; omega), rfl⟩

set_option maxRecDepth 100000 in
set_option maxHeartbeats 1000000 in
theorem RPAllN_calls {w0 w : World} {l : List HProp} (pm pr : Nat) (t : TreeS) (o : List Int) (r : Root) (hs : Sat w0 w ((RTreeObj pr t) :: (RWObj pm pr o) :: l)) (hi : idxOf t.nodes r = none) :
  Calls Try.prog 18 #[.pointer (some ⟨pm, 0, none⟩), .agg (rootC r).toArray] w (Ret w0 fun v l' => v = .tuple #[.pointer none, .bool false] ∧ l' = RTreeObj pr t :: RWObj pm pr o :: l) := by
 obtain ⟨a1, c1, a2, c2, a3, c3, R, Sl, Pa, hw, hR, hs⟩ := hs.rtreeOpen
 obtain ⟨a4, c4, hs⟩ := (hs.pull 4).rwOpen
 have hle := hw.le; have hm2 := hw.m2; have hpa := hw.pa; have hnd := hw.nd; have hne := hw.ne
 have hRl : R.length = t.nodes.length := by rw [hR.r, List.length_map]
 have hSl : Sl.length = t.nodes.length := by rw [hR.s, List.length_map]
 have hPl : Pa.length = t.nodes.length := by rw [hR.p]; unfold parR; rw [List.length_map]
 have hpl : ∀ r, rplace R r = t.place r := fun r => by rw [hR.r, rplace_map]
 have hpl0 : t.place r = -1 := by unfold TreeS.place; rw [hi]
 refine calls_enter Try.func18 rfl rfl rfl hs ?_
 refine Z3h ?_; intro bx1
 refine Zd ?_
 refine Z7 ?_
 refine Z7t ?_
 refine Z5 ?_
 refine Z7u ?_
 refine Z77 ?_
 refine Z15 ?_
 refine rg_i (wn_none rfl) (os_back (os_pull4 (os_pull4 (os_call cb_49 rfl (fun w s => RPlaceO_calls _ _ _ _ _ _ _ _  s )))) (fun _ s => (((((((s.pull 6).pull 6).pull 3).pull 3).pull 6).pull 6).pull 6))) rfl rfl ?_; rintro _ _ ⟨rfl, rfl⟩; rw [hpl, hpl0]; refine ⟨[], rfl, ?_⟩
 refine Z39 ?_
 refine Zj ?_
 refine Z3c ?_
 refine cd_cond rfl (fun hb1 => ?_) (fun hb1 => ?_)
 ·have hp1 := hb1
  (try simp only [bn] at hp1)
  refine Z2q ?_
  refine Zx ?_
  exact px_ret2 rfl (v1 := .pointer _) (v2 := .bool _) (l' := RTreeObj pr t :: RWObj pm pr o :: l) rfl rfl (fun _ s => ((s.del 0)).rwtPack hw hR) ⟨rfl, rfl⟩
 have hp1 := hb1
 (try simp only [bn] at hp1)
 exact absurd hb1 (by decide)

set_option maxRecDepth 100000 in
set_option maxHeartbeats 1000000 in
theorem RPAllS_calls {w0 w : World} {l : List HProp} (pm pr : Nat) (t : TreeS) (o : List Int) (r : Root) (a : Nat) (hs : Sat w0 w ((RTreeObj pr t) :: (RWObj pm pr o) :: l)) (hi : idxOf t.nodes r = some a) (h1 : o.length ≤ t.nodes.length) :
  Calls Try.prog 18 #[.pointer (some ⟨pm, 0, none⟩), .agg (rootC r).toArray] w (Ret w0 fun v l' => ∃ qm qr, v = .tuple #[.pointer (some ⟨qm, 0, none⟩), .bool true] ∧ l' = RTreeObj qr (prT t a) :: RWObj qm qr (prO t.nodes a o) :: RTreeObj pr t :: RWObj pm pr o :: l) := by
 obtain ⟨a1, c1, a2, c2, a3, c3, R, Sl, Pa, hw, hR, hs⟩ := hs.rtreeOpen
 obtain ⟨a4, c4, hs⟩ := (hs.pull 4).rwOpen
 have hle := hw.le; have hm2 := hw.m2; have hpa := hw.pa; have hnd := hw.nd; have hne := hw.ne
 have hRl : R.length = t.nodes.length := by rw [hR.r, List.length_map]
 have hSl : Sl.length = t.nodes.length := by rw [hR.s, List.length_map]
 have hPl : Pa.length = t.nodes.length := by rw [hR.p]; unfold parR; rw [List.length_map]
 have hpl : ∀ r, rplace R r = t.place r := fun r => by rw [hR.r, rplace_map]
 have hla := idxOf_lt hi
 have hpl0 : t.place r = (a : Int) := by unfold TreeS.place; rw [hi]
 have hRr : ∀ q (h : q < R.length), R[q] = rtA t.nodes q := fun q h => by simp only [hR.r, List.getElem_map]; exact (rtA_get (by omega)).symm
 have hSr : ∀ q (h : q < Sl.length), Sl[q] = slA t.nodes q := fun q h => by simp only [hR.s, List.getElem_map]; exact (slA_get (by omega)).symm
 have hPr : ∀ q (h : q < Pa.length), q ≠ a → Pa[q] = upR t.nodes a q := fun q h hq => by unfold upR; rw [if_neg hq, List.getD_eq_getElem?_getD, List.getElem?_eq_getElem (by rw [← hR.p]; exact h)]; simp only [hR.p]; rfl
 refine calls_enter Try.func18 rfl rfl rfl hs ?_
 refine Z3h ?_; intro bx1
 refine Zd ?_
 refine Z7 ?_
 refine Z7t ?_
 refine Z5 ?_
 refine Z7u ?_
 refine Z77 ?_
 refine Z15 ?_
 refine rg_i (wn_none rfl) (os_back (os_pull4 (os_pull4 (os_call cb_49 rfl (fun w s => RPlaceO_calls _ _ _ _ _ _ _ _  s )))) (fun _ s => (((((((s.pull 6).pull 6).pull 3).pull 3).pull 6).pull 6).pull 6))) rfl rfl ?_; rintro _ _ ⟨rfl, rfl⟩; rw [hpl, hpl0]; refine ⟨[], rfl, ?_⟩
 refine Z39 ?_
 refine Zj ?_
 refine Z3c ?_
 refine cd_cond rfl (fun hb1 => ?_) (fun hb1 => ?_)
 ·have hp1 := hb1
  (try simp only [bn] at hp1)
  omega
 have hp1 := hb1
 (try simp only [bn] at hp1)
 refine Zn ?_
 refine Zt ?_
 refine oq (op_field fld_47_0 rfl) ?_
 refine oq (op_ld 1 sc_45 rfl rfl rfl) ?_
 refine Z18 ?_
 refine oq (op_field fld_44_3 rfl) ?_
 refine oq (op_ld 3 sc_3 rfl rfl rfl) ?_
 refine oq (op_build (L := [_, _, _, _]) (vs := [(3, .int _ _)]) bB_44 rfl ⟨⟨rfl, rfl⟩, trivial⟩ rfl) ?_
 refine Z2c ?_; intro bx2
 refine Zh ?_
 refine Z14 ?_
 refine Zv ?_
 refine Zs ?_
 refine Zt ?_
 refine oq (op_field fld_47_0 rfl) ?_
 refine oq (op_ld 2 sc_45 rfl rfl rfl) ?_
 refine Z18 ?_
 refine oq (op_field fld_44_0 rfl) ?_
 refine oq (op_ld 4 sc_37 rfl rfl rfl) ?_
 refine oq (op_len_slice Try.underlying37 rfl) ?_
 refine Z1f ?_
 refine cd_imp (fun _ s => Sat.rowNil (E := encI64) (e := 3) s) ?_
 refine cd_imp (fun _ s => Sat.rowNil (E := encRoot) (e := 24) s) ?_
 refine cd_imp (fun _ s => Sat.rowNil (E := encI64) (e := 3) s) ?_
 refine cd_imp (fun _ s => Sat.rowNil (E := encRoot) (e := 24) s) ?_
 refine cd_pull4 ?_
 refine cd_loop2 (α := Nat × Option Addr × Nat × Option Addr × Nat × Option Addr × Nat × Option Addr × Nat) [(8, 11), (37, 109)] (fun x => [(8, .slice x.2.2.2.2.2.2.2.1 (prOm t.nodes a x.1 o).length x.2.2.2.2.2.2.2.2), (37, .int .i64 (x.1 : Int))]) (fun x => Blk bx2 (.cells #[.slice x.2.1 (prR t.nodes a x.1).length x.2.2.1, .slice x.2.2.2.1 (prS t.nodes a x.1).length x.2.2.2.2.1, .slice x.2.2.2.2.2.1 (prP t.nodes a x.1).length x.2.2.2.2.2.2.1, .int .i64 t.most] 44 (0, 0)) :: Row 24 encRoot (.slice x.2.1 (prR t.nodes a x.1).length x.2.2.1) (prR t.nodes a x.1) :: Row 3 encI64 (.slice x.2.2.2.1 (prS t.nodes a x.1).length x.2.2.2.2.1) (prS t.nodes a x.1) :: Row 24 encRoot (.slice x.2.2.2.2.2.1 (prP t.nodes a x.1).length x.2.2.2.2.2.2.1) (prP t.nodes a x.1) :: Row 3 encI64 (.slice x.2.2.2.2.2.2.2.1 (prOm t.nodes a x.1 o).length x.2.2.2.2.2.2.2.2) (prOm t.nodes a x.1 o) :: _) (fun x => x.1 ≤ t.nodes.length) (fun x => t.nodes.length - x.1) (0, none, 0, none, 0, none, 0, none, 0) (Nat.zero_le _) ⟨rfl, rfl, trivial⟩ (fun _ s => s) ?_
 rintro ⟨i, b1, d1, b2, d2, b3, d3, b4, d4⟩ hi2 f; (try dsimp only at hi2 ⊢)
 refine Zy ?_
 refine cd_cond rfl (fun hb2 => ?_) (fun hb2 => ?_)
 ·have hp2 := hb2
  (try simp only [bn] at hp2)
  have hi1 : i < t.nodes.length := by omega
  refine Z2i ?_
  refine oq (op_index i sB_37 rfl rfl rfl (rds_row 9 rfl rfl) rfl (by omega)) ?_
  refine oq (op_ldaw (L := rootC _) ag_24 (rds_row 9 rfl rfl) rfl (by omega) rfl (rootC_ta _)) ?_
  refine Z20 ?_; intro bx3
  refine Zq ?_
  refine Z4a ?_
  refine Zs ?_
  rw [hRr i (by omega)]
  refine Z7 ?_
  refine cd_draw (M := []) mx [6] (by kernel_rfl) ?_
  refine Z5 ?_
  refine Z7u ?_
  refine rg_q (wn_none rfl) (op_ld 7 sc_45 rfl rfl rfl) rfl rfl ?_
  refine rg_q (wn_none rfl) (op_lda (L := rootC _) 6 ag_24 rfl rfl (rootC_take' _) (by simp [rootC_len])) rfl rfl ?_
  refine Z15 ?_
  refine rg_i (wn_none rfl) (os_back (os_pull12 (os_pull12 (os_pull12 (os_pull12 (os_call cb_54 rfl (fun w s => RBelowO_calls _ _ _ _ _ _ _ _ _ _ _ _ _  s (by assumption) (by assumption))))))) (fun _ s => ((((s.push 12).push 12).push 12).push 12))) rfl rfl ?_; rintro _ l ⟨rfl, rfl⟩; rw [below_rt hw hi hi1]; refine ⟨[], rfl, ?_⟩
  refine rg_q (wn_none rfl) (op_not rfl) rfl rfl ?_
  refine Z17 ?_
  refine cd_cond rfl (fun hb3 => ?_) (fun hb3 => ?_)
  ·have hp3 := hb3
   (try simp only [bn] at hp3)
   have hbe : ¬ belI t.nodes a (i : Int) = true := by simpa using hb3
   have eR : (prR t.nodes a (i + 1)) = (prR t.nodes a i) := by unfold prR; rw [selI_succ, if_neg hbe]
   have eS : (prS t.nodes a (i + 1)) = (prS t.nodes a i) := by unfold prS; rw [selI_succ, if_neg hbe]
   have eP : (prP t.nodes a (i + 1)) = (prP t.nodes a i) := by unfold prP; rw [selI_succ, if_neg hbe]
   have eO : (prOm t.nodes a (i + 1) o) = (prOm t.nodes a i o) := by unfold prOm; rw [selI_succ, if_neg hbe]
   refine cd_exit ?_
   refine Z8q ?_
   refine px_then ?_
   refine Z16 ?_
   refine Z95 ?_
   refine px_loop2 (i + 1, b1, d1, b2, d2, b3, d3, b4, d4) (by dsimp only; omega) (by (try dsimp only); omega) ⟨congrArg (fun q => Value.slice b4 (List.length q) d4) eO.symm, congrArg (Value.int .i64) (by simp), trivial⟩ ?_ (fun _ s => (by (try dsimp only); rw [eR, eS, eP, eO]; exact (s.del 0)))
   exact Z0
  have hp3 := hb3
  (try simp only [bn] at hp3)
  have hbe : belI t.nodes a (i : Int) = true := by simpa using hb3
  have eR : (prR t.nodes a (i + 1)) = (prR t.nodes a i) ++ [rtA t.nodes i] := by unfold prR; rw [selI_succ, if_pos hbe, List.map_append]; rfl
  have eS : (prS t.nodes a (i + 1)) = (prS t.nodes a i) ++ [slA t.nodes i] := by unfold prS; rw [selI_succ, if_pos hbe, List.map_append]; rfl
  have eP : (prP t.nodes a (i + 1)) = (prP t.nodes a i) ++ [upR t.nodes a i] := by unfold prP; rw [selI_succ, if_pos hbe, List.map_append]; rfl
  have eO : (prOm t.nodes a (i + 1) o) = (prOm t.nodes a i o) ++ [oA o i] := by unfold prOm; rw [selI_succ, if_pos hbe, List.map_append]; rfl
  refine Zn ?_
  refine cd_pull2 ?_
  refine Z7 ?_
  refine Z7g ?_
  dsimp only [List.take_succ_cons, List.take_zero, List.drop_succ_cons, List.drop_zero]
  refine Zi ?_
  refine Z5 ?_
  refine Z63 ?_
  refine rg_q (wn_none rfl) (op_ld 1 sc_37 rfl rfl rfl) rfl rfl ?_
  refine Z15 ?_
  refine Z7h ?_; intro ao1
  refine rg_i (wn_none rfl) (os_pull1 (os_append (E := encRoot) rfl sB_37 zv_24 rfl rfl rfl (fun w s => (rds_row 1 rfl rfl) [] w s) rfl (by simp; have := rk_le t.nodes a i; have := (rfl : (prR t.nodes a i).length = _); simp [prR, prS, prP, prOm] at *; unfold rk at *; omega) (by unfold maxLen; simp; have := rk_le t.nodes a i; have := (rfl : (prR t.nodes a i).length = _); simp [prR, prS, prP, prOm] at *; unfold rk at *; omega))) rfl rfl ?_; rintro _ _ ⟨ao2, ac2, rfl, rfl⟩; refine ⟨[_, _], rfl, ?_⟩
  refine rg_tail2 ?_
  refine Z18 ?_
  refine oq (op_field fld_44_0 rfl) ?_
  refine Zr ?_
  refine Z7i ?_
  refine Z2 ?_
  refine cd_pull4 ?_
  refine Z7 ?_
  refine cd_drawt (M := [_]) mx [15, 16] 17 (by kernel_rfl) rfl rfl ?_
  dsimp only [List.take_succ_cons, List.take_zero, List.drop_succ_cons, List.drop_zero]
  refine Zi ?_
  refine Z5 ?_
  refine rg_q (wn_none rfl) (op_field fld_44_1 rfl) rfl rfl ?_
  refine Z82 ?_
  refine Z5 ?_
  refine Z7u ?_
  refine rg_q (wn_none rfl) (op_ld 7 sc_45 rfl rfl rfl) rfl rfl ?_
  refine Z7z ?_
  refine rg_q (wn_none rfl) (op_field fld_44_1 rfl) rfl rfl ?_
  refine rg_q (wn_none rfl) (op_ld 9 sc_42 rfl rfl rfl) rfl rfl ?_
  refine Zg ?_
  refine rg_q (wn_none rfl) (op_index i sB_42 rfl rfl rfl (rds_row 11 rfl rfl) rfl (by omega)) rfl rfl ?_
  refine rg_q (wn_none rfl) (op_ldw sc_3 (rds_row 11 rfl rfl) rfl (by omega) rfl) rfl rfl ?_
  refine rg_i (wn_none rfl) (os_bslice (E := encI64) [_] (ys := [_]) sB_42 zv_3 rfl rfl rfl rfl (by decide)) rfl rfl ?_; rintro _ _ ⟨ao3, rfl, rfl⟩; refine ⟨[_, _], rfl, ?_⟩
  refine rg_i (wn_none rfl) (os_pull1 (os_append (E := encI64) rfl sB_42 zv_3 rfl rfl rfl (fun w s => (rds_row 1 rfl rfl) [] w s) rfl (by simp; have := rk_le t.nodes a i; have := (rfl : (prR t.nodes a i).length = _); simp [prR, prS, prP, prOm] at *; unfold rk at *; omega) (by unfold maxLen; simp; have := rk_le t.nodes a i; have := (rfl : (prR t.nodes a i).length = _); simp [prR, prS, prP, prOm] at *; unfold rk at *; omega))) rfl rfl ?_; rintro _ _ ⟨ao4, ac4, rfl, rfl⟩; refine ⟨[_, _], rfl, ?_⟩
  refine rg_tail2 ?_
  refine Z18 ?_
  refine oq (op_field fld_44_1 rfl) ?_
  refine ol_pull2 ?_
  refine Z8w ?_
  refine Z2 ?_
  rw [hSr i (by omega)]
  refine Zt ?_
  refine oq (op_field fld_47_0 rfl) ?_
  refine oq (op_ld 9 sc_45 rfl rfl rfl) ?_
  refine Z7x ?_
  refine oq (op_ld 11 sc_37 rfl rfl rfl) ?_
  refine Z4 ?_
  refine oq (op_index i sB_37 rfl rfl rfl (rds_row 14 rfl rfl) rfl (by omega)) ?_
  refine oq (op_ldaw (L := rootC _) ag_24 (rds_row 14 rfl rfl) rfl (by omega) rfl (rootC_ta _)) ?_
  refine Z20 ?_; intro bx4
  refine Z4a ?_
  refine Zs ?_
  refine Ze ?_
  refine Z4 ?_
  refine Z4m ?_
  refine cd_cond rfl (fun hb4 => ?_) (fun hb4 => ?_)
  ·have hp4 := hb4
   (try simp only [bn] at hp4)
   have hup : Root.zero = upR t.nodes a i := by unfold upR; rw [if_pos (by omega)]
   refine Z16 ?_
   refine oq (op_buildr rfl rB_24 zBr_24) ?_
   refine oN (os_storera _ ag_24 rfl rfl (Free.zero _)) ?_; rintro _ _ ⟨rfl, rfl⟩; rw [hup]
   refine Za6 ?_
   refine cd_pull7 ?_
   refine Z7 ?_
   refine Z7g ?_
   dsimp only [List.take_succ_cons, List.take_zero, List.drop_succ_cons, List.drop_zero]
   refine Zi ?_
   refine Z5 ?_
   refine rg_q (wn_none rfl) (op_field fld_44_2 rfl) rfl rfl ?_
   refine rg_q (wn_none rfl) (op_ld 1 sc_37 rfl rfl rfl) rfl rfl ?_
   refine Z15 ?_
   refine Z7h ?_; intro ao5
   refine rg_i (wn_none rfl) (os_pull1 (os_append (E := encRoot) rfl sB_37 zv_24 rfl rfl rfl (fun w s => (rds_row 1 rfl rfl) [] w s) rfl (by simp; have := rk_le t.nodes a i; have := (rfl : (prR t.nodes a i).length = _); simp [prR, prS, prP, prOm] at *; unfold rk at *; omega) (by unfold maxLen; simp; have := rk_le t.nodes a i; have := (rfl : (prR t.nodes a i).length = _); simp [prR, prS, prP, prOm] at *; unfold rk at *; omega))) rfl rfl ?_; rintro _ _ ⟨ao6, ac6, rfl, rfl⟩; refine ⟨[_, _], rfl, ?_⟩
   refine rg_tail2 ?_
   refine Z7x ?_
   refine Zr ?_
   refine Z7i ?_
   refine Z2 ?_
   refine Z16 ?_
   refine Zp ?_
   refine Z29 ?_
   refine oq (op_lda (L := rootC _) 8 ag_24 rfl rfl (rootC_take' _) (by simp [rootC_len])) ?_
   refine ol_pull12 ?_
   refine ol_pull12 ?_
   refine ol_pull16 ?_
   refine ol_pull16 ?_
   refine ol_pull16 ?_
   refine ol_pull16 ?_
   refine oi (os_call cb_27 rfl (fun w s => ROwnOfO_calls _ _ _ _ _ _ _ _ _ _ _ _ _ _ _ _  s (by assumption) (by assumption) (by first | assumption | omega))) ?_; rintro _ _ ⟨rfl, rfl⟩; rw [ofF_rt2 hw hi1]
   refine Z86 ?_; intro ao7
   refine ol_pull16 ?_
   refine oi (os_append (E := encI64) rfl sB_42 zv_3 rfl rfl rfl (fun w s => (rds_row 1 rfl rfl) [] w s) rfl (by simp; have := rk_le t.nodes a i; have := (rfl : (prR t.nodes a i).length = _); simp [prR, prS, prP, prOm] at *; unfold rk at *; omega) (by unfold maxLen; simp; have := rk_le t.nodes a i; have := (rfl : (prR t.nodes a i).length = _); simp [prR, prS, prP, prOm] at *; unfold rk at *; omega)) ?_; rintro _ _ ⟨ao8, ac8, rfl, rfl⟩
   refine Zv ?_
   refine Z2t ?_
   refine px_pull5 ?_
   refine px_pull5 ?_
   refine px_pull5 ?_
   refine px_pull5 ?_
   refine px_pull7 ?_
   refine px_pull7 ?_
   refine px_pull17 ?_
   refine px_pull7 ?_
   refine px_pull10 ?_
   refine px_pull13 ?_
   refine px_pull15 ?_
   refine px_pull12 ?_
   refine px_loop2 (i + 1, ao2, ac2, ao4, ac4, ao6, ac6, ao8, ac8) (by dsimp only; omega) (by (try dsimp only); omega) ⟨congrArg (fun q => Value.slice ao8 (List.length q) ac8) eO.symm, congrArg (Value.int .i64) (by simp), trivial⟩ ?_ (fun _ s => (by (try dsimp only); rw [eR, eS, eP, eO]; exact ((((((s.del 17).del 16).del 15).del 14).del 13).del 12)))
   exact Z0
  have hp4 := hb4
  (try simp only [bn] at hp4)
  have hup : Pa[i]'(by omega) = upR t.nodes a i := hPr i (by omega) (by omega)
  rw [hup]
  refine Zn ?_
  refine cd_pull7 ?_
  refine Z7 ?_
  refine Z7g ?_
  dsimp only [List.take_succ_cons, List.take_zero, List.drop_succ_cons, List.drop_zero]
  refine Zi ?_
  refine Z5 ?_
  refine rg_q (wn_none rfl) (op_field fld_44_2 rfl) rfl rfl ?_
  refine rg_q (wn_none rfl) (op_ld 1 sc_37 rfl rfl rfl) rfl rfl ?_
  refine Z15 ?_
  refine Z7h ?_; intro ao9
  refine rg_i (wn_none rfl) (os_pull1 (os_append (E := encRoot) rfl sB_37 zv_24 rfl rfl rfl (fun w s => (rds_row 1 rfl rfl) [] w s) rfl (by simp; have := rk_le t.nodes a i; have := (rfl : (prR t.nodes a i).length = _); simp [prR, prS, prP, prOm] at *; unfold rk at *; omega) (by unfold maxLen; simp; have := rk_le t.nodes a i; have := (rfl : (prR t.nodes a i).length = _); simp [prR, prS, prP, prOm] at *; unfold rk at *; omega))) rfl rfl ?_; rintro _ _ ⟨ao10, ac10, rfl, rfl⟩; refine ⟨[_, _], rfl, ?_⟩
  refine rg_tail2 ?_
  refine Z7x ?_
  refine Zr ?_
  refine Z7i ?_
  refine Z2 ?_
  refine Z16 ?_
  refine Zp ?_
  refine Z29 ?_
  refine oq (op_lda (L := rootC _) 8 ag_24 rfl rfl (rootC_take' _) (by simp [rootC_len])) ?_
  refine ol_pull12 ?_
  refine ol_pull12 ?_
  refine ol_pull16 ?_
  refine ol_pull16 ?_
  refine ol_pull16 ?_
  refine ol_pull16 ?_
  refine oi (os_call cb_27 rfl (fun w s => ROwnOfO_calls _ _ _ _ _ _ _ _ _ _ _ _ _ _ _ _  s (by assumption) (by assumption) (by first | assumption | omega))) ?_; rintro _ _ ⟨rfl, rfl⟩; rw [ofF_rt2 hw hi1]
  refine Z86 ?_; intro ao11
  refine ol_pull16 ?_
  refine oi (os_append (E := encI64) rfl sB_42 zv_3 rfl rfl rfl (fun w s => (rds_row 1 rfl rfl) [] w s) rfl (by simp; have := rk_le t.nodes a i; have := (rfl : (prR t.nodes a i).length = _); simp [prR, prS, prP, prOm] at *; unfold rk at *; omega) (by unfold maxLen; simp; have := rk_le t.nodes a i; have := (rfl : (prR t.nodes a i).length = _); simp [prR, prS, prP, prOm] at *; unfold rk at *; omega)) ?_; rintro _ _ ⟨ao12, ac12, rfl, rfl⟩
  refine Zv ?_
  refine Z2t ?_
  refine px_pull5 ?_
  refine px_pull5 ?_
  refine px_pull5 ?_
  refine px_pull5 ?_
  refine px_pull7 ?_
  refine px_pull7 ?_
  refine px_pull17 ?_
  refine px_pull7 ?_
  refine px_pull10 ?_
  refine px_pull13 ?_
  refine px_pull15 ?_
  refine px_pull12 ?_
  refine px_loop2 (i + 1, ao2, ac2, ao4, ac4, ao10, ac10, ao12, ac12) (by dsimp only; omega) (by (try dsimp only); omega) ⟨congrArg (fun q => Value.slice ao12 (List.length q) ac12) eO.symm, congrArg (Value.int .i64) (by simp), trivial⟩ ?_ (fun _ s => (by (try dsimp only); rw [eR, eS, eP, eO]; exact ((((((s.del 17).del 16).del 15).del 14).del 13).del 12)))
  exact Z0
 have hp2 := hb2
 (try simp only [bn] at hp2)
 have hie : i = t.nodes.length := by omega
 refine Z1a ?_
 refine Zc ?_
 refine Zp ?_
 refine Zp ?_
 refine Z4u ?_
 refine oq (op_build (L := [_, _, _]) (vs := [(0, .pointer _), (1, .slice _ _ _), (2, .int _ _)]) bB_47 rfl ⟨⟨rfl, rfl⟩, ⟨rfl, rfl⟩, ⟨rfl, rfl⟩, trivial⟩ rfl) ?_
 refine Z2c ?_; intro bx5
 refine Zh ?_
 refine Zo ?_
 refine px_pull12 ?_
 refine px_pull12 ?_
 refine px_pull12 ?_
 refine px_pull12 ?_
 refine px_pull12 ?_
 refine px_pull12 ?_
 refine px_pull11 ?_
 refine px_pull7 ?_
 refine px_pull11 ?_
 refine px_pull11 ?_
 refine px_pull11 ?_
 refine px_pull11 ?_
 rw [hie]
 exact px_ret2 rfl (v1 := .pointer _) (v2 := .bool _) (l' := RTreeObj _ (prT t a) :: RWObj _ _ (prO t.nodes a o) :: RTreeObj pr t :: RWObj pm pr o :: l) rfl rfl (fun _ s => by
  have s1 : Sat _ _ (RTreeObj _ (prT t a) :: _) := Sat.rtreeMk (prT_wf hw hla) (pr_ref hw a) rfl rfl rfl (s.del 12)
  have s2 : Sat _ _ (RWObj _ _ (prO t.nodes a o) :: _) := Sat.rwMk rfl rfl ((s1.pull 2).pull 2)
  have s3 := ((((((s2.pull 7).pull 7).pull 7).pull 7).pull 7).pull 7)
  have s4 := s3.rwtPack hw hR
  have s5 := ((s4.pull 3).pull 3).pull 1
  exact s5) ⟨_, _, rfl, rfl⟩
end Go.SL

set_option linter.unusedVariables false
set_option linter.unusedSimpArgs false
namespace Go.SL
open Go.Proofs

theorem TabNewOk_calls {w0 w : World} {l : List HProp} (n sl : Int) (hs : Sat w0 w l) (h : 1 ≤ n ∧ n ≤ 64 ∧ 1 ≤ sl ∧ sl ≤ 32) :
  Calls Try.prog 85 #[.int .i64 n, .int .i64 sl] w (Ret w0 fun v l' => ∃ p, v = .pointer (some ⟨p, 0, none⟩) ∧ l' = TabObj p (TabS.new n.toNat sl) :: l) :=
 (New_calls n sl hs).mono fun e w' ⟨v, l', he, hp, hs'⟩ => by
  rcases hp with ⟨_, _, hb⟩ | ⟨p, hv, _, hl⟩
  ·omega
  exact ⟨v, l', he, ⟨p, hv, hl⟩, hs'⟩
theorem RTabNewOk_calls {w0 w : World} {l : List HProp} (n sl : Int) (hs : Sat w0 w l) (h : 1 ≤ n ∧ n ≤ 64 ∧ 1 ≤ sl ∧ sl ≤ 32) :
  Calls Try.prog 90 #[.int .i64 n, .int .i64 sl] w (Ret w0 fun v l' => ∃ p, v = .tuple #[.pointer (some ⟨p, 0, none⟩), .bool true] ∧ l' = RTabObj p (TabS.new n.toNat sl) :: l) :=
 (RNew_calls n sl hs).mono fun e w' ⟨v, l', he, hp, hs'⟩ => by
  rcases hp with ⟨_, _, hb⟩ | ⟨p, hv, _, hl⟩
  ·omega
  exact ⟨v, l', he, ⟨p, hv, hl⟩, hs'⟩
theorem RTNewOk_calls {w0 w : World} {l : List HProp} (r : Root) (slot most : Int) (hs : Sat w0 w l) (h : 1 ≤ most ∧ most ≤ 256 ∧ 0 ≤ slot ∧ slot ≤ 1073741824) :
  Calls Try.prog 46 #[.agg (rootC r).toArray, .int .i64 slot, .int .i64 most] w (Ret w0 fun v l' => ∃ p, v = .tuple #[.pointer (some ⟨p, 0, none⟩), .bool true] ∧ l' = RTreeObj p (TreeS.new r slot most) :: l) :=
 (RTNew_calls r slot most hs).mono fun e w' ⟨v, l', he, hp, hs'⟩ => by
  rcases hp with ⟨_, _, hb⟩ | ⟨p, hv, _, hl⟩
  ·omega
  exact ⟨v, l', he, ⟨p, hv, hl⟩, hs'⟩

set_option maxRecDepth 100000 in
set_option maxHeartbeats 1000000 in
theorem BNewN_calls {w0 w : World} {l : List HProp} (ao : Option Addr) (c : Nat) (xs : List Val) (n1 n2 n3 n4 n5 n6 n7 n8 n9 n10 n11 : Int) (hs : Sat w0 w (l)) (hg : goodC ⟨⟨ao, xs.length, c⟩, n1, n2, n3, n4, n5, n6, n7, n8, n9, n10, n11⟩ xs = false) (hr : Rds w0 l encVal ao xs) (hxl : xs.length ≤ 1000000) :
  Calls Try.prog 62 #[.agg (cfgC ⟨⟨ao, xs.length, c⟩, n1, n2, n3, n4, n5, n6, n7, n8, n9, n10, n11⟩).toArray] w (Ret w0 fun v l' => v = .pointer none ∧ l' = l) := by
 refine calls_enter Try.func62 rfl rfl rfl hs ?_
 refine Z3h ?_; intro bx1
 refine Z3u ?_
 refine Z3o ?_
 refine oi (os_call cb_83 rfl (fun w s => Good_calls _ _ _ _ _ _ _ _ _ _ _ _ _ _  s (hr.cons _) (by first | omega | (simp; done) | (simp; omega)))) ?_; rintro _ l ⟨rfl, rfl⟩
 refine Z2y ?_
 refine Z2 ?_
 refine cd_cond rfl (fun hb1 => ?_) (fun hb1 => ?_)
 ·have hp1 := hb1
  (try simp only [bn] at hp1)
  refine Z2q ?_
  refine Z1s ?_
  refine Z13 ?_
  exact px_ret1 rfl (v := .pointer _) rfl (fun _ s => (s.del 0)) ⟨rfl, rfl⟩
 have hp1 := hb1
 (try simp only [bn] at hp1)
 exact absurd hb1 (by rw [hg]; simp)

set_option maxRecDepth 100000 in
set_option maxHeartbeats 1000000 in
theorem RBNewN_calls {w0 w : World} {l : List HProp} (ao : Option Addr) (c : Nat) (xs : List Val) (n1 n2 n3 n4 n5 n6 n7 n8 n9 n10 n11 : Int) (hs : Sat w0 w (l)) (hg : goodC ⟨⟨ao, xs.length, c⟩, n1, n2, n3, n4, n5, n6, n7, n8, n9, n10, n11⟩ xs = false) (hr : Rds w0 l encVal ao xs) (hxl : xs.length ≤ 1000000) (hq : ∀ y ∈ xs, I64 y.stake ∧ y.key.length ≤ maxLen) :
  Calls Try.prog 66 #[.agg (cfgC ⟨⟨ao, xs.length, c⟩, n1, n2, n3, n4, n5, n6, n7, n8, n9, n10, n11⟩).toArray] w (Ret w0 fun v l' => v = .tuple #[.pointer none, .bool false] ∧ l' = l) := by
 refine calls_enter Try.func66 rfl rfl rfl hs ?_
 refine Z3h ?_; intro bx1
 refine Zd ?_
 refine Z1d ?_
 refine Z3o ?_
 refine oi (os_call cb_89 rfl (fun w s => RGood_calls _ _ _ _ _ _ _ _ _ _ _ _ _ _  s (hr.cons _) (by first | omega | (simp; done) | (simp; omega)) (by assumption))) ?_; rintro _ l ⟨rfl, rfl⟩
 refine Z2y ?_
 refine Z2 ?_
 refine cd_cond rfl (fun hb1 => ?_) (fun hb1 => ?_)
 ·have hp1 := hb1
  (try simp only [bn] at hp1)
  refine Z2q ?_
  refine Zx ?_
  exact px_ret2 rfl (v1 := .pointer _) (v2 := .bool _) rfl rfl (fun _ s => (s.del 0)) ⟨rfl, rfl⟩
 have hp1 := hb1
 (try simp only [bn] at hp1)
 exact absurd hb1 (by rw [hg]; simp)

set_option maxRecDepth 100000 in
set_option maxHeartbeats 1000000 in
theorem BNewS_calls {w0 w : World} {l : List HProp} (ao : Option Addr) (c : Nat) (xs : List Val) (n1 n2 n3 n4 n5 n6 n7 n8 n9 n10 n11 : Int) (hs : Sat w0 w (l)) (hg : goodC ⟨⟨ao, xs.length, c⟩, n1, n2, n3, n4, n5, n6, n7, n8, n9, n10, n11⟩ xs = true) (hr : Rds w0 l encVal ao xs) :
  Calls Try.prog 62 #[.agg (cfgC ⟨⟨ao, xs.length, c⟩, n1, n2, n3, n4, n5, n6, n7, n8, n9, n10, n11⟩).toArray] w (Ret w0 fun v l' => ∃ pb pt pw pv, v = .pointer (some ⟨pb, 0, none⟩) ∧ l' = Blk pb (.cells #[.slice ao xs.length c, .int .i64 n1, .int .i64 n2, .int .i64 n3, .int .i64 n4, .int .i64 n5, .int .i64 n6, .int .i64 n7, .int .i64 n8, .int .i64 n9, .int .i64 n10, .int .i64 n11, .pointer (some ⟨pt, 0, none⟩), .pointer (some ⟨pw, 0, none⟩), .pointer (some ⟨pv, 0, none⟩)] 131 (0, 0)) :: TreeObj pt (TreeS.new (shaM ([116, 111, 108, 108, 101, 114] ++ bytesC ⟨⟨ao, xs.length, c⟩, n1, n2, n3, n4, n5, n6, n7, n8, n9, n10, n11⟩ xs)) 0 n3) :: WObj pw pt (TreeS.new (shaM ([116, 111, 108, 108, 101, 114] ++ bytesC ⟨⟨ao, xs.length, c⟩, n1, n2, n3, n4, n5, n6, n7, n8, n9, n10, n11⟩ xs)) 0 n3).nodes (ownE xs (effT (TabS.new xs.length n1)) (TreeS.new (shaM ([116, 111, 108, 108, 101, 114] ++ bytesC ⟨⟨ao, xs.length, c⟩, n1, n2, n3, n4, n5, n6, n7, n8, n9, n10, n11⟩ xs)) 0 n3).nodes) :: TabObj pv (TabS.new xs.length n1) :: l) := by
 have hbd := goodC_bd hg
 (try dsimp only at hbd)
 have hxl := hbd.2.2.1.2
 have hk := hbd.2.2.2
 refine calls_enter Try.func62 rfl rfl rfl hs ?_
 refine Z3h ?_; intro bx1
 refine Z3u ?_
 refine Z3o ?_
 refine oi (os_call cb_83 rfl (fun w s => Good_calls _ _ _ _ _ _ _ _ _ _ _ _ _ _  s (hr.cons _) (by omega))) ?_; rintro _ l ⟨rfl, rfl⟩
 refine Z2y ?_
 refine Z2 ?_
 refine cd_cond rfl (fun hb1 => ?_) (fun hb1 => ?_)
 ·have hp1 := hb1
  (try simp only [bn] at hp1)
  exact absurd hb1 (by rw [hg]; simp)
 have hp1 := hb1
 (try simp only [bn] at hp1)
 refine Zf ?_
 refine cd_draw (M := []) mx [1, 4] (by kernel_rfl) ?_
 refine rg_q (wn_none rfl) (op_lda (L := cfgC _) 0 ag_65 rfl rfl (cfgC_ta _) (by simp [cfgC_len])) rfl rfl ?_
 refine rg_i (wn_none rfl) (os_call cb_84 rfl (fun w s => GRoot_calls _ _ _ _ _ _ _ _ _ _ _ _ _ _  s (hr.cons _) (by omega) hk)) rfl rfl ?_; rintro _ l ⟨rfl, rfl⟩; refine ⟨[], rfl, ?_⟩
 refine rg_q (wn_none rfl) (op_field fld_65_3 rfl) rfl rfl ?_
 refine rg_q (wn_none rfl) (op_ld 0 sc_3 rfl rfl (show (cfgC _).toArray[3]? = some (.int .i64 n3) from cfgC_a3 _)) rfl rfl ?_
 refine rg_i (wn_none rfl) (os_call cb_45 rfl (fun w s => TNewOk_calls _ _ _  s (by omega))) rfl rfl ?_; rintro _ _ ⟨np3, rfl, rfl⟩; refine ⟨[_], rfl, ?_⟩
 refine Z4d ?_
 refine Z5b ?_
 refine Z7a ?_
 refine Z4h ?_
 refine Z3b ?_
 refine Z7 ?_
 refine cd_drawt (M := []) mx [3, 9] 11 (by kernel_rfl) rfl rfl ?_
 dsimp only [List.take_succ_cons, List.take_zero, List.drop_succ_cons, List.drop_zero]
 refine rg_q (wn_none rfl) (op_lda (L := cfgC _) 1 ag_65 rfl rfl (cfgC_ta _) (by simp [cfgC_len])) rfl rfl ?_
 refine Zi ?_
 refine Zi ?_
 refine rg_i (wn_none rfl) (os_call cb_50 rfl (fun w s => WNew_calls _ _  s )) rfl rfl ?_; rintro _ _ ⟨pw4, rfl, rfl⟩; refine ⟨[_], rfl, ?_⟩
 refine rg_q (wn_none rfl) (op_field fld_65_0 rfl) rfl rfl ?_
 refine rg_q (wn_none rfl) (op_ld 1 sc_63 rfl rfl (show (cfgC _).toArray[0]? = some (.slice ao xs.length c) from cfgC_a0 _)) rfl rfl ?_
 refine rg_q (wn_none rfl) (op_len_slice Try.underlying63 rfl) rfl rfl ?_
 refine rg_q (wn_none rfl) (op_field fld_65_1 rfl) rfl rfl ?_
 refine rg_q (wn_none rfl) (op_ld 1 sc_3 rfl rfl (show (cfgC _).toArray[1]? = some (.int .i64 n1) from cfgC_a1 _)) rfl rfl ?_
 refine rg_i (wn_none rfl) (os_call cb_85 rfl (fun w s => TabNewOk_calls _ _  s (by omega))) rfl rfl ?_; rintro _ _ ⟨nv5, rfl, rfl⟩; rw [Int.toNat_natCast]; refine ⟨[_, _], rfl, ?_⟩
 refine rg_q (wn_none rfl) (op_build (L := [.slice ao xs.length c, .int .i64 n1, .int .i64 n2, .int .i64 n3, .int .i64 n4, .int .i64 n5, .int .i64 n6, .int .i64 n7, .int .i64 n8, .int .i64 n9, .int .i64 n10, .int .i64 n11, .pointer _, .pointer _, .pointer _]) (vs := [(0, .agg (cfgC ⟨⟨ao, xs.length, c⟩, n1, n2, n3, n4, n5, n6, n7, n8, n9, n10, n11⟩).toArray), (1, .pointer _), (2, .pointer _), (3, .pointer _)]) bB_131 rfl ⟨⟨rfl, rfl⟩, ⟨rfl, rfl⟩, ⟨rfl, rfl⟩, ⟨rfl, rfl⟩, trivial⟩ rfl) rfl rfl ?_
 refine rg_tail2 ?_
 refine Z2c ?_; intro bx2
 refine Zh ?_
 refine Z1s ?_
 exact px_ret1 rfl (v := .pointer _) (l' := _ :: TreeObj _ (TreeS.new (shaM ([116, 111, 108, 108, 101, 114] ++ bytesC ⟨⟨ao, xs.length, c⟩, n1, n2, n3, n4, n5, n6, n7, n8, n9, n10, n11⟩ xs)) 0 n3) :: WObj _ _ (TreeS.new (shaM ([116, 111, 108, 108, 101, 114] ++ bytesC ⟨⟨ao, xs.length, c⟩, n1, n2, n3, n4, n5, n6, n7, n8, n9, n10, n11⟩ xs)) 0 n3).nodes (ownE xs (effT (TabS.new xs.length n1)) (TreeS.new (shaM ([116, 111, 108, 108, 101, 114] ++ bytesC ⟨⟨ao, xs.length, c⟩, n1, n2, n3, n4, n5, n6, n7, n8, n9, n10, n11⟩ xs)) 0 n3).nodes) :: TabObj _ (TabS.new xs.length n1) :: l) rfl (fun _ s => by rw [newB_own]; exact (((((s.del 4).pull 1).pull 2).pull 3).pull 3)) ⟨_, _, _, _, rfl, rfl⟩

set_option maxRecDepth 100000 in
set_option maxHeartbeats 1000000 in
theorem RBNewS_calls {w0 w : World} {l : List HProp} (ao : Option Addr) (c : Nat) (xs : List Val) (n1 n2 n3 n4 n5 n6 n7 n8 n9 n10 n11 : Int) (hs : Sat w0 w (l)) (hg : goodC ⟨⟨ao, xs.length, c⟩, n1, n2, n3, n4, n5, n6, n7, n8, n9, n10, n11⟩ xs = true) (hr : Rds w0 l encVal ao xs) (hq : ∀ y ∈ xs, I64 y.stake ∧ y.key.length ≤ maxLen) :
  Calls Try.prog 66 #[.agg (cfgC ⟨⟨ao, xs.length, c⟩, n1, n2, n3, n4, n5, n6, n7, n8, n9, n10, n11⟩).toArray] w (Ret w0 fun v l' => ∃ pm pr pq, v = .tuple #[.pointer (some ⟨pm, 0, none⟩), .bool true] ∧ l' = Blk pm (.cells #[.slice ao xs.length c, .int .i64 n1, .int .i64 n2, .int .i64 n3, .int .i64 n4, .int .i64 n5, .int .i64 n6, .int .i64 n7, .int .i64 n8, .int .i64 n9, .int .i64 n10, .int .i64 n11, .pointer (some ⟨pr, 0, none⟩), .pointer (some ⟨pq, 0, none⟩)] 127 (0, 0)) :: RTreeObj pr (TreeS.new (shaM ([116, 111, 108, 108, 101, 114] ++ bytesC ⟨⟨ao, xs.length, c⟩, n1, n2, n3, n4, n5, n6, n7, n8, n9, n10, n11⟩ xs)) 0 n3) :: RTabObj pq (TabS.new xs.length n1) :: l) := by
 have hbd := goodC_bd hg
 (try dsimp only at hbd)
 have hxl := hbd.2.2.1.2
 have hk := hbd.2.2.2
 refine calls_enter Try.func66 rfl rfl rfl hs ?_
 refine Z3h ?_; intro bx1
 refine Zd ?_
 refine Z1d ?_
 refine Z3o ?_
 refine oi (os_call cb_89 rfl (fun w s => RGood_calls _ _ _ _ _ _ _ _ _ _ _ _ _ _  s (hr.cons _) (by omega) (by assumption))) ?_; rintro _ l ⟨rfl, rfl⟩
 refine Z2y ?_
 refine Z2 ?_
 refine cd_cond rfl (fun hb1 => ?_) (fun hb1 => ?_)
 ·have hp1 := hb1
  (try simp only [bn] at hp1)
  exact absurd hb1 (by rw [hg]; simp)
 have hp1 := hb1
 (try simp only [bn] at hp1)
 refine Zf ?_
 refine cd_draw (M := []) mx [1, 4] (by kernel_rfl) ?_
 refine rg_q (wn_none rfl) (op_lda (L := cfgC _) 0 ag_65 rfl rfl (cfgC_ta _) (by simp [cfgC_len])) rfl rfl ?_
 refine rg_i (wn_none rfl) (os_call cb_63 rfl (fun w s => RRoot_calls _ _ _ _ _ _ _ _ _ _ _ _ _ _  s (hr.cons _) (by omega) hk)) rfl rfl ?_; rintro _ l ⟨rfl, rfl⟩; refine ⟨[], rfl, ?_⟩
 refine rg_q (wn_none rfl) (op_field fld_65_3 rfl) rfl rfl ?_
 refine rg_q (wn_none rfl) (op_ld 0 sc_3 rfl rfl (show (cfgC _).toArray[3]? = some (.int .i64 n3) from cfgC_a3 _)) rfl rfl ?_
 refine rg_i (wn_none rfl) (os_call cb_46 rfl (fun w s => RTNewOk_calls _ _ _  s (by omega))) rfl rfl ?_; rintro _ _ ⟨nr3, rfl, rfl⟩; refine ⟨[_], rfl, ?_⟩
 refine Z4d ?_
 refine Z5b ?_
 refine Z5g ?_
 refine Z4h ?_
 refine Z2n ?_
 refine rg_nil_then1 ?_
 refine Z1 ?_
 refine Z36 ?_
 refine oq (op_ld 1 sc_63 rfl rfl (show (cfgC _).toArray[0]? = some (.slice ao xs.length c) from cfgC_a0 _)) ?_
 refine Z3m ?_
 refine oq (op_field fld_65_1 rfl) ?_
 refine oq (op_ld 1 sc_3 rfl rfl (show (cfgC _).toArray[1]? = some (.int .i64 n1) from cfgC_a1 _)) ?_
 refine oi (os_call cb_90 rfl (fun w s => RTabNewOk_calls _ _  s (by omega))) ?_; rintro _ _ ⟨nq4, rfl, rfl⟩; rw [Int.toNat_natCast]
 refine Z2v ?_
 refine Z4v ?_
 refine Z4e ?_
 refine Zh ?_
 refine Z3s ?_
 refine oq (op_lda (L := cfgC _) 2 ag_65 rfl rfl (cfgC_ta _) (by simp [cfgC_len])) ?_
 refine Z29 ?_
 refine Z29 ?_
 refine oq (op_build (L := [.slice ao xs.length c, .int .i64 n1, .int .i64 n2, .int .i64 n3, .int .i64 n4, .int .i64 n5, .int .i64 n6, .int .i64 n7, .int .i64 n8, .int .i64 n9, .int .i64 n10, .int .i64 n11, .pointer _, .pointer _]) (vs := [(0, .agg (cfgC ⟨⟨ao, xs.length, c⟩, n1, n2, n3, n4, n5, n6, n7, n8, n9, n10, n11⟩).toArray), (1, .pointer _), (2, .pointer _)]) bB_127 rfl ⟨⟨rfl, rfl⟩, ⟨rfl, rfl⟩, ⟨rfl, rfl⟩, trivial⟩ rfl) ?_
 refine Z2c ?_; intro bx2
 refine Zh ?_
 refine Zo ?_
 exact px_ret2 rfl (v1 := .pointer _) (v2 := .bool _) (l' := _ :: RTreeObj _ (TreeS.new (shaM ([116, 111, 108, 108, 101, 114] ++ bytesC ⟨⟨ao, xs.length, c⟩, n1, n2, n3, n4, n5, n6, n7, n8, n9, n10, n11⟩ xs)) 0 n3) :: RTabObj _ (TabS.new xs.length n1) :: l) rfl rfl (fun _ s => ((((s.del 3).pull 1).pull 2).pull 2)) ⟨_, _, _, rfl, rfl⟩

set_option maxRecDepth 100000 in
set_option maxHeartbeats 1000000 in
theorem RBTake_calls {w0 w : World} {l : List HProp} (pm pr pq : Nat) (ao : Option Addr) (c : Nat) (xs : List Val) (n1 n2 n3 n4 n5 n6 n7 n8 n9 n10 n11 : Int) (t : TreeS) (tb : TabS) (u : Vote) (hs : Sat w0 w ((Blk pm (.cells #[.slice ao xs.length c, .int .i64 n1, .int .i64 n2, .int .i64 n3, .int .i64 n4, .int .i64 n5, .int .i64 n6, .int .i64 n7, .int .i64 n8, .int .i64 n9, .int .i64 n10, .int .i64 n11, .pointer (some ⟨pr, 0, none⟩), .pointer (some ⟨pq, 0, none⟩)] 127 (0, 0))) :: (RTreeObj pr t) :: (RTabObj pq tb) :: l))  :
  Calls Try.prog 68 #[.pointer (some ⟨pm, 0, none⟩), .agg (voteC u).toArray] w (Ret w0 fun v l' => v = .int .i64 (BookS.take ⟨t, tb⟩ u).1 ∧ l' = Blk pm (.cells #[.slice ao xs.length c, .int .i64 n1, .int .i64 n2, .int .i64 n3, .int .i64 n4, .int .i64 n5, .int .i64 n6, .int .i64 n7, .int .i64 n8, .int .i64 n9, .int .i64 n10, .int .i64 n11, .pointer (some ⟨pr, 0, none⟩), .pointer (some ⟨pq, 0, none⟩)] 127 (0, 0)) :: RTreeObj pr t :: RTabObj pq (BookS.take ⟨t, tb⟩ u).2 :: l) := by
 refine calls_enter Try.func68 rfl rfl rfl hs ?_
 refine Zm ?_; intro bx1
 refine Zb ?_
 rcases hix : idxOf t.nodes u.target with _ | j
 ·
  have hna : t.node (t.place u.target) = none := by unfold TreeS.place; rw [hix]; rfl
  have hpj : t.place u.target = -1 := by unfold TreeS.place; rw [hix]
  refine Z7 ?_
  refine cd_draw (M := []) mx [6] (by kernel_rfl) ?_
  refine Z5 ?_
  refine Z8k ?_
  refine Z77 ?_
  refine Z8b ?_
  refine rg_q (wn_none rfl) (op_lda (L := rootC _) 0 ag_24 rfl rfl (voteC_af2 _) (by simp [voteC_len])) rfl rfl ?_
  refine rg_i (wn_none rfl) (os_back (os_pull2 (os_call cb_49 rfl (fun w s => RPlace_calls _ _ _  s ))) (fun _ s => ((((s.pull 3).pull 1).pull 3).pull 3))) rfl rfl ?_; rintro _ _ ⟨rfl, rfl⟩; rw [hpj]; refine ⟨[], rfl, ?_⟩
  refine Z39 ?_
  refine Z7 ?_
  refine cd_pull2 ?_
  refine cd_rtreeOpen ?_; intro a1 c1 a2 c2 a3 c3 R Sl Pa hw hR
  have hSl : Sl.length = t.nodes.length := by rw [hR.s, List.length_map]
  have hSr : ∀ q (h : q < Sl.length), Sl[q] = slA t.nodes q := fun q h => by simp only [hR.s, List.getElem_map]; exact (slA_get (by omega)).symm
  refine Z1y ?_
  refine Zg ?_
  refine Z4r ?_
  refine Z4f ?_
  refine rg_split 15 rfl (fun hb1 => ?_) (fun hb1 => ?_)
  ·have hp1 := hb1
   (try simp only [bn] at hp1)
   have hunk := unk_none hix
   refine rg_skip (wn_some rfl rfl rfl hb1 rfl) rfl ?_
   refine rg_skip (wn_some rfl rfl rfl hb1 rfl) rfl ?_
   refine rg_skip (wn_some rfl rfl rfl hb1 rfl) rfl ?_
   refine rg_skip (wn_some rfl rfl rfl hb1 rfl) rfl ?_
   refine rg_skip (wn_some rfl rfl rfl hb1 rfl) rfl ?_
   refine rg_skip (wn_some rfl rfl rfl hb1 rfl) rfl ?_
   refine rg_skip (wn_some rfl rfl rfl hb1 rfl) rfl ?_
   refine rg_skip (wn_some rfl rfl rfl hb1 rfl) rfl ?_
   refine rg_skip (wn_some rfl rfl rfl hb1 rfl) rfl ?_
   refine rg_skip (wn_some rfl rfl rfl hb1 rfl) rfl ?_
   refine rg_skip (wn_some rfl rfl rfl hb1 rfl) rfl ?_
   refine rg_skip (wn_some rfl rfl rfl hb1 rfl) rfl ?_
   refine rg_skip (wn_some rfl rfl rfl hb1 rfl) rfl ?_
   refine rg_q (wn_none rfl) (op_pick_t (v := .bool _) rfl hb1 rfl) rfl rfl ?_
   refine Z17 ?_
   refine Z4p ?_
   refine Z1x ?_
   rw [btake_unk hunk]; (try dsimp only)
   exact px_ret1 rfl (v := .int _ _) (l' := Blk pm (.cells #[.slice ao xs.length c, .int .i64 n1, .int .i64 n2, .int .i64 n3, .int .i64 n4, .int .i64 n5, .int .i64 n6, .int .i64 n7, .int .i64 n8, .int .i64 n9, .int .i64 n10, .int .i64 n11, .pointer (some ⟨pr, 0, none⟩), .pointer (some ⟨pq, 0, none⟩)] 127 (0, 0)) :: RTreeObj pr t :: RTabObj pq tb :: l) rfl (fun _ s => ((Sat.rtreeMk hw hR rfl rfl rfl (s.del 4)).pull 1)) ⟨rfl, rfl⟩
  have hp1 := hb1
  (try simp only [bn] at hp1)
  exact absurd hb1 (by decide)
 have hjl := idxOf_lt hix
 have hpj : t.place u.target = (j : Int) := by unfold TreeS.place; rw [hix]
 have hna : t.node (t.place u.target) = t.nodes[j]? := by rw [hpj, TreeS.node_at]
 refine Z7 ?_
 refine cd_draw (M := []) mx [6] (by kernel_rfl) ?_
 refine Z5 ?_
 refine Z8k ?_
 refine Z77 ?_
 refine Z8b ?_
 refine rg_q (wn_none rfl) (op_lda (L := rootC _) 0 ag_24 rfl rfl (voteC_af2 _) (by simp [voteC_len])) rfl rfl ?_
 refine rg_i (wn_none rfl) (os_back (os_pull2 (os_call cb_49 rfl (fun w s => RPlace_calls _ _ _  s ))) (fun _ s => ((((s.pull 3).pull 1).pull 3).pull 3))) rfl rfl ?_; rintro _ _ ⟨rfl, rfl⟩; rw [hpj]; refine ⟨[], rfl, ?_⟩
 refine Z39 ?_
 refine Z7 ?_
 refine cd_pull2 ?_
 refine cd_rtreeOpen ?_; intro a1 c1 a2 c2 a3 c3 R Sl Pa hw hR
 have hSl : Sl.length = t.nodes.length := by rw [hR.s, List.length_map]
 have hSr : ∀ q (h : q < Sl.length), Sl[q] = slA t.nodes q := fun q h => by simp only [hR.s, List.getElem_map]; exact (slA_get (by omega)).symm
 refine Z1y ?_
 refine Zg ?_
 refine Z4r ?_
 refine Z4f ?_
 refine rg_split 15 rfl (fun hb2 => ?_) (fun hb2 => ?_)
 ·have hp2 := hb2
  (try simp only [bn] at hp2)
  exact absurd (of_decide_eq_true hb2) (by omega)
 have hp2 := hb2
 (try simp only [bn] at hp2)
 refine rg_q (wn_some rfl rfl rfl hb2 rfl) (op_move (v := .pointer _) rfl) rfl rfl ?_
 refine rg_q (wn_some rfl rfl rfl hb2 rfl) (op_nilck rfl) rfl rfl ?_
 refine rg_q (wn_some rfl rfl rfl hb2 rfl) (op_field fld_127_1 rfl) rfl rfl ?_
 refine rg_q (wn_some rfl rfl rfl hb2 rfl) (op_ld 5 sc_45 rfl rfl rfl) rfl rfl ?_
 refine rg_q (wn_some rfl rfl rfl hb2 rfl) (op_nilck rfl) rfl rfl ?_
 refine rg_q (wn_some rfl rfl rfl hb2 rfl) (op_field fld_44_1 rfl) rfl rfl ?_
 refine rg_q (wn_some rfl rfl rfl hb2 rfl) (op_ld 0 sc_42 rfl rfl rfl) rfl rfl ?_
 refine rg_q (wn_some rfl rfl rfl hb2 rfl) (op_move (v := .int _ _) rfl) rfl rfl ?_
 refine rg_q (wn_some rfl rfl rfl hb2 rfl) (op_index j sB_42 rfl rfl rfl (rds_row 2 rfl rfl) rfl (by omega)) rfl rfl ?_
 refine rg_q (wn_some rfl rfl rfl hb2 rfl) (op_ldw sc_3 (rds_row 2 rfl rfl) rfl (by omega) rfl) rfl rfl ?_
 refine rg_q (wn_some rfl rfl rfl hb2 rfl) (op_field fld_84_1 rfl) rfl rfl ?_
 refine rg_q (wn_some rfl rfl rfl hb2 rfl) (op_ld 4 sc_3 rfl rfl (voteC_a1 _)) rfl rfl ?_
 refine rg_q (wn_some rfl rfl rfl hb2 rfl) (op_gt rfl rfl) rfl rfl ?_
 refine rg_q (wn_none rfl) (op_pick_f (v := .bool _) rfl hb2 rfl) rfl rfl ?_
 refine Z17 ?_
 refine cd_cond rfl (fun hb3 => ?_) (fun hb3 => ?_)
 ·have hp3 := hb3
  (try simp only [bn] at hp3)
  have hunk : unkB t u = true := by rw [unk_some hix]; exact decide_eq_true (by rw [← hSr j (by omega)]; omega)
  refine Z1x ?_
  rw [btake_unk hunk]; (try dsimp only)
  exact px_ret1 rfl (v := .int _ _) (l' := Blk pm (.cells #[.slice ao xs.length c, .int .i64 n1, .int .i64 n2, .int .i64 n3, .int .i64 n4, .int .i64 n5, .int .i64 n6, .int .i64 n7, .int .i64 n8, .int .i64 n9, .int .i64 n10, .int .i64 n11, .pointer (some ⟨pr, 0, none⟩), .pointer (some ⟨pq, 0, none⟩)] 127 (0, 0)) :: RTreeObj pr t :: RTabObj pq tb :: l) rfl (fun _ s => ((Sat.rtreeMk hw hR rfl rfl rfl (s.del 4)).pull 1)) ⟨rfl, rfl⟩
 have hp3 := hb3
 (try simp only [bn] at hp3)
 have hbt := btake_yes (tb := tb) (show unkB t u = false by rw [unk_some hix]; exact decide_eq_false (by rw [← hSr j (by omega)]; omega))
 refine Zn ?_
 refine cd_imp (fun _ s => Sat.rtreeMk hw hR rfl rfl rfl s) ?_
 refine cd_pull3 ?_
 refine Z7 ?_
 refine Z4g ?_
 refine Z5 ?_
 refine rg_q (wn_none rfl) (op_field fld_127_2 rfl) rfl rfl ?_
 refine rg_q (wn_none rfl) (op_ld 2 sc_125 rfl rfl rfl) rfl rfl ?_
 refine rg_q (wn_none rfl) (op_lda (L := voteC _) 1 ag_84 rfl rfl (voteC_ta _) (by simp [voteC_len])) rfl rfl ?_
 refine rg_i (wn_none rfl) (os_call cb_91 rfl (fun w s => RTake_calls _ _ _  s )) rfl rfl ?_; rintro _ _ ⟨rfl, rfl⟩; refine ⟨[_], rfl, ?_⟩
 refine Z3b ?_
 refine cd_ret ?_
 rw [hbt]
 exact px_ret1 rfl (v := .int _ _) rfl (fun _ s => (((s.del 2).pull 1).pull 2)) ⟨rfl, rfl⟩

set_option maxRecDepth 100000 in
set_option maxHeartbeats 1000000 in
theorem RBKeepN_calls {w0 w : World} {l : List HProp} (pm pr pq : Nat) (ao : Option Addr) (c : Nat) (xs : List Val) (n1 n2 n3 n4 n5 n6 n7 n8 n9 n10 n11 : Int) (t : TreeS) (r : Root) (hs : Sat w0 w ((Blk pm (.cells #[.slice ao xs.length c, .int .i64 n1, .int .i64 n2, .int .i64 n3, .int .i64 n4, .int .i64 n5, .int .i64 n6, .int .i64 n7, .int .i64 n8, .int .i64 n9, .int .i64 n10, .int .i64 n11, .pointer (some ⟨pr, 0, none⟩), .pointer (some ⟨pq, 0, none⟩)] 127 (0, 0))) :: (RTreeObj pr t) :: l)) (hi : idxOf t.nodes r = none) :
  Calls Try.prog 69 #[.pointer (some ⟨pm, 0, none⟩), .agg (rootC r).toArray] w (Ret w0 fun v l' => v = .int .i64 7 ∧ l' = Blk pm (.cells #[.slice ao xs.length c, .int .i64 n1, .int .i64 n2, .int .i64 n3, .int .i64 n4, .int .i64 n5, .int .i64 n6, .int .i64 n7, .int .i64 n8, .int .i64 n9, .int .i64 n10, .int .i64 n11, .pointer (some ⟨pr, 0, none⟩), .pointer (some ⟨pq, 0, none⟩)] 127 (0, 0)) :: RTreeObj pr t :: l) := by
 refine calls_enter Try.func69 rfl rfl rfl hs ?_
 refine Zm ?_; intro bx1
 refine Zb ?_
 refine cd_pull2 ?_
 refine Z7 ?_
 refine cd_draw (M := [_]) mx [4, 6] (by kernel_rfl) ?_
 refine Z5 ?_
 refine Z8k ?_
 refine Z77 ?_
 refine rg_i (wn_none rfl) (os_call cb_51 rfl (fun w s => RWNew_calls _ _  s )) rfl rfl ?_; rintro _ _ ⟨pm1, rfl, rfl⟩; refine ⟨[_, _], rfl, ?_⟩
 refine Z15 ?_
 refine rg_i (wn_none rfl) (os_pull1 (os_call cb_18 rfl (fun w s => RPAllN_calls _ _ _ _ _  s (by assumption)))) rfl rfl ?_; rintro _ _ ⟨rfl, rfl⟩; refine ⟨[_, _], rfl, ?_⟩
 refine Z4d ?_
 refine Z5b ?_
 refine Z5g ?_
 refine Z4h ?_
 refine Z2n ?_
 refine rg_nil_then2 ?_
 refine Z3d ?_
 refine Z3e ?_
 exact px_ret1 rfl (v := .int _ _) rfl (fun _ s => (((s.del 2).del 1).pull 1)) ⟨rfl, rfl⟩

set_option maxRecDepth 100000 in
set_option maxHeartbeats 1000000 in
theorem RBKeepS_calls {w0 w : World} {l : List HProp} (pm pr pq : Nat) (ao : Option Addr) (c : Nat) (xs : List Val) (n1 n2 n3 n4 n5 n6 n7 n8 n9 n10 n11 : Int) (t : TreeS) (r : Root) (a : Nat) (hs : Sat w0 w ((Blk pm (.cells #[.slice ao xs.length c, .int .i64 n1, .int .i64 n2, .int .i64 n3, .int .i64 n4, .int .i64 n5, .int .i64 n6, .int .i64 n7, .int .i64 n8, .int .i64 n9, .int .i64 n10, .int .i64 n11, .pointer (some ⟨pr, 0, none⟩), .pointer (some ⟨pq, 0, none⟩)] 127 (0, 0))) :: (RTreeObj pr t) :: l)) (hi : idxOf t.nodes r = some a) :
  Calls Try.prog 69 #[.pointer (some ⟨pm, 0, none⟩), .agg (rootC r).toArray] w (Ret w0 fun v l' => ∃ qr, v = .int .i64 0 ∧ l' = Blk pm (.cells #[.slice ao xs.length c, .int .i64 n1, .int .i64 n2, .int .i64 n3, .int .i64 n4, .int .i64 n5, .int .i64 n6, .int .i64 n7, .int .i64 n8, .int .i64 n9, .int .i64 n10, .int .i64 n11, .pointer (some ⟨qr, 0, none⟩), .pointer (some ⟨pq, 0, none⟩)] 127 (0, 0)) :: RTreeObj qr (prT t a) :: l) := by
 refine calls_enter Try.func69 rfl rfl rfl hs ?_
 refine Zm ?_; intro bx1
 refine Zb ?_
 refine cd_pull2 ?_
 refine Z7 ?_
 refine cd_draw (M := [_]) mx [4, 6] (by kernel_rfl) ?_
 refine Z5 ?_
 refine Z8k ?_
 refine Z77 ?_
 refine rg_i (wn_none rfl) (os_call cb_51 rfl (fun w s => RWNew_calls _ _  s )) rfl rfl ?_; rintro _ _ ⟨pm1, rfl, rfl⟩; refine ⟨[_, _], rfl, ?_⟩
 refine Z15 ?_
 refine rg_i (wn_none rfl) (os_pull1 (os_call cb_18 rfl (fun w s => RPAllS_calls _ _ _ _ _ _  s hi (Nat.le_of_eq (growO_len (Nat.zero_le _)))))) rfl rfl ?_; rintro _ _ ⟨qm2, qr2, rfl, rfl⟩; refine ⟨[_, _, _, _], rfl, ?_⟩
 refine Z4d ?_
 refine Z5b ?_
 refine Z5g ?_
 refine Z4h ?_
 refine Z2n ?_
 refine rg_nil_then4 ?_
 refine Z3d ?_
 refine Z2h ?_
 refine cd_pull1 ?_
 refine cd_rwOpen ?_; intro a4 c4
 refine Z32 ?_
 refine Z18 ?_
 refine oq (op_field fld_47_0 rfl) ?_
 refine oq (op_ld 0 sc_45 rfl rfl rfl) ?_
 refine Z18 ?_
 refine oq (op_field fld_127_1 rfl) ?_
 refine Z22 ?_
 refine oN (os_store (v := .pointer _) sc_45 rfl rfl rfl rfl (Free.zero _) rfl) ?_; rintro _ _ ⟨rfl, rfl⟩
 refine Z2 ?_
 refine Z19 ?_
 exact px_ret1 rfl (v := .int _ _) rfl (fun _ s => (((((s.del 6).del 5).del 4).del 2).del 1)) ⟨_, rfl, rfl⟩

set_option maxRecDepth 100000 in
set_option maxHeartbeats 1000000 in
theorem bname_calls {w0 w : World} {l : List HProp} (ao : Option Addr) (c : Nat) (xs : List Val) (n1 n2 n3 n4 n5 n6 n7 n8 n9 n10 n11 : Int) (k : Int) (hs : Sat w0 w (l)) (hr : Rds w0 l encVal ao xs) (hxl : xs.length ≤ 64) (hk : ∀ y ∈ xs, y.key.length ≤ 32) :
  Calls Try.prog 67 #[.agg (cfgC ⟨⟨ao, xs.length, c⟩, n1, n2, n3, n4, n5, n6, n7, n8, n9, n10, n11⟩).toArray, .int .i64 k] w (Ret w0 fun v l' => v = .agg (rootC (bName (shaM ([116, 111, 108, 108, 101, 114] ++ bytesC ⟨⟨ao, xs.length, c⟩, n1, n2, n3, n4, n5, n6, n7, n8, n9, n10, n11⟩ xs)) k)).toArray ∧ l' = l) := by
 refine calls_enter Try.func67 rfl rfl rfl hs ?_
 refine Zm ?_; intro bx1
 refine Z20 ?_; intro bx2
 refine Zs ?_
 refine Ze ?_
 refine Z4m ?_
 refine cd_cond rfl (fun hb1 => ?_) (fun hb1 => ?_)
 ·have hp1 := hb1
  (try simp only [bn] at hp1)
  refine Z1 ?_
  refine oq (op_lda (L := cfgC _) 1 ag_65 rfl rfl (cfgC_ta _) (by simp [cfgC_len])) ?_
  refine oi (os_call cb_63 rfl (fun w s => RRoot_calls _ _ _ _ _ _ _ _ _ _ _ _ _ _  s ((hr.cons _).cons _) (by omega) (by assumption))) ?_; rintro _ l ⟨rfl, rfl⟩
  refine Z45 ?_
  refine Z13 ?_
  exact px_rv1 rfl (rv_cella 0 ag_24 rfl rfl (rootC_take' _) (by simp [rootC_len])) (fun _ s => ((s.del 1).del 0)) ⟨by unfold bName; rw [if_pos (by omega)], rfl⟩
 have hp1 := hb1
 (try simp only [bn] at hp1)
 refine Zn ?_
 refine Ze ?_
 refine oi (os_call cb_17 rfl (fun w s => Name_calls _  s )) ?_; rintro _ _ ⟨rfl, rfl⟩
 refine Z45 ?_
 exact px_rv1 rfl (rv_cella 0 ag_24 rfl rfl (rootC_take' _) (by simp [rootC_len])) (fun _ s => ((s.del 1).del 0)) ⟨by unfold bName; rw [if_neg (by omega)], rfl⟩
end Go.SL

set_option linter.unusedVariables false
set_option linter.unusedSimpArgs false
namespace Go.SL
section
variable {vs : List Val} {E : Nat → Option Root} {ns : List Node} {g : Root} {b : BookS} {a : VAct}
theorem stepB_0 (h : a.kind = 0) : stepB g b a = { b with t := (b.t.add (bName g a.root) (bName g a.parent) a.slot).2 } := if_pos h
theorem stepB_1 (h : a.kind = 1) : stepB g b a = { b with tb := (b.take ⟨a.who, a.slot, bName g a.root⟩).2 } := by unfold stepB; rw [if_neg (by omega), if_pos h]
theorem stepB_2 (h : a.kind = 2) : stepB g b a = { b with t := (keepT b.t (bName g a.root)).2 } := by unfold stepB; rw [if_neg (by omega), if_neg (by omega), if_pos h]
theorem stepB_3 (h0 : a.kind ≠ 0) (h1 : a.kind ≠ 1) (h2 : a.kind ≠ 2) : stepB g b a = { b with tb := b.tb.forget a.slot } := by unfold stepB; rw [if_neg h0, if_neg h1, if_neg h2]
theorem keepT_no {t : TreeS} {r : Root} (h : idxOf t.nodes r = none) : keepT t r = (7, t) := by unfold keepT; rw [h]
theorem keepT_yes {t : TreeS} {r : Root} {x : Nat} (h : idxOf t.nodes r = some x) : keepT t r = (0, prT t x) := by unfold keepT; rw [h]
def ownK (vs : List Val) (E : Nat → Option Root) (ns : List Node) (k : Nat) : List Int := tab ns.length fun i => sg (shareE vs E (rtA ns i)) k
end
def alQ : Cfg := ⟨⟨none, 1, 1⟩, 4, 1, 9, 1, 1, 1, 1, 1, 1, 1, 1⟩
def alX : List Val := [⟨5, [107]⟩]
def alF : Root := shaM ([116, 111, 108, 108, 101, 114] ++ bytesC alQ alX)
def alB0 : BookS := ⟨TreeS.new alF 0 9, TabS.new alX.length 4⟩
def alB1 : BookS := ⟨(alB0.t.add (nameR 1) alF 2).2, alB0.tb⟩
def alB2 : BookS := ⟨alB1.t, (alB1.take ⟨0, 2, nameR 1⟩).2⟩
theorem alB_0 (ao : Option Addr) (m k : Nat) : shaM ([116, 111, 108, 108, 101, 114] ++ bytesC ⟨⟨ao, m, k⟩, 4, 1, 9, 1, 1, 1, 1, 1, 1, 1, 1⟩ alX) = alF := rfl
theorem alB_g (ao : Option Addr) (m k : Nat) : goodC ⟨⟨ao, m, k⟩, 4, 1, 9, 1, 1, 1, 1, 1, 1, 1, 1⟩ alX = true := by simp [goodC, numsC, inR, totF, valOK, alX]
theorem alB_1 : headW alB0.t.nodes (ownB alX alB0) = alF := by decide +kernel
theorem alB_2 : (alB0.t.add (nameR 1) alF 2).1 = 0 := by decide +kernel
theorem alB_3 : (alB1.take ⟨0, 1, nameR 1⟩) = (6, alB1.tb) := if_pos (by decide +kernel)
theorem alB_4 : (alB1.take ⟨0, 2, nameR 1⟩).1 = 0 := by decide +kernel
theorem alB_5 : ofF alB2.t (ownB alX alB2).length (sumN alB2.t.nodes (ownB alX alB2)) alF = 5 := by decide +kernel
theorem alB_6 : headW alB2.t.nodes (ownB alX alB2) = nameR 1 := by decide +kernel
theorem alB_p : 0 < (ownB alX alB0).length := by decide +kernel
theorem alB_q : 0 < (ownB alX alB2).length := by decide +kernel
end Go.SL

set_option linter.unusedVariables false
set_option linter.unusedSimpArgs false
namespace Go.SL
open Go.Proofs

theorem opens_Val {H : Type} {enc : TypeId × Value → H} {W : World} : Opens enc Try.prog W 78 (fun cs => ∃ a : Val, cs = encVal.cells a ∧ (I64 a.stake ∧ a.key.length ≤ maxLen)) := fun fuel cs x h => by
 obtain ⟨hl, hf⟩ := opens_field Try.underlying78 h
 have hc : Try.prog.cellsOf 78 = 2 := by kernel_rfl
 rw [hc] at hl
 obtain ⟨n0, h0, w0⟩ := hf 0 0 3 1 _ rfl (by kernel_rfl) (opens_int Try.underlying3)
 obtain ⟨n1, h1, w1⟩ := hf 1 1 9 1 _ rfl (by kernel_rfl) (opens_string Try.underlying9)
 refine ⟨⟨n0, n1⟩, ?_, wf_i64 w0, w1⟩
 have e0 : cs.drop 0 = (cs.drop 0).take 1 ++ cs.drop 1 := seg cs 0 1
 have e1 : cs.drop 1 = (cs.drop 1).take 1 ++ cs.drop 2 := seg cs 1 1
 have eN : cs.drop 2 = [] := List.drop_eq_nil_of_le (by omega)
 have e : cs.drop 0 = [.int .i64 n0] ++ ([.string (B n1)] ++ ([])) := by rw [e0, h0, e1, h1, eN]
 rw [List.drop_zero] at e
 rw [e]
 show _ = valC _
 unfold valC
 simp

theorem opens_Cfg {H : Type} {enc : TypeId × Value → H} {W : World} : Opens enc Try.prog W 65 (fun cs => ∃ a : Cfg, cs = encCfg.cells a ∧ ((∃ ys : List Val, a.vs.n = ys.length ∧ a.vs.n ≤ a.vs.c ∧ a.vs.c ≤ maxLen ∧ Shows W encVal a.vs.a ys ∧ ∀ y ∈ ys, I64 y.stake ∧ y.key.length ≤ maxLen) ∧ I64 a.epoch ∧ I64 a.committee ∧ I64 a.nodes ∧ I64 a.orphans ∧ I64 a.early ∧ I64 a.quota ∧ I64 a.peers ∧ I64 a.bytes ∧ I64 a.window ∧ I64 a.ban ∧ I64 a.decay)) := fun fuel cs x h => by
 obtain ⟨hl, hf⟩ := opens_field Try.underlying65 h
 have hc : Try.prog.cellsOf 65 = 12 := by kernel_rfl
 rw [hc] at hl
 obtain ⟨ao0, c0, ys0, h0, hl0, hm0, hs0, hq0⟩ := hf 0 0 63 1 _ rfl (by kernel_rfl) (opens_slice encVal Try.underlying63 (by kernel_rfl) opens_Val)
 obtain ⟨n1, h1, w1⟩ := hf 1 1 3 1 _ rfl (by kernel_rfl) (opens_int Try.underlying3)
 obtain ⟨n2, h2, w2⟩ := hf 2 2 3 1 _ rfl (by kernel_rfl) (opens_int Try.underlying3)
 obtain ⟨n3, h3, w3⟩ := hf 3 3 3 1 _ rfl (by kernel_rfl) (opens_int Try.underlying3)
 obtain ⟨n4, h4, w4⟩ := hf 4 4 3 1 _ rfl (by kernel_rfl) (opens_int Try.underlying3)
 obtain ⟨n5, h5, w5⟩ := hf 5 5 3 1 _ rfl (by kernel_rfl) (opens_int Try.underlying3)
 obtain ⟨n6, h6, w6⟩ := hf 6 6 3 1 _ rfl (by kernel_rfl) (opens_int Try.underlying3)
 obtain ⟨n7, h7, w7⟩ := hf 7 7 3 1 _ rfl (by kernel_rfl) (opens_int Try.underlying3)
 obtain ⟨n8, h8, w8⟩ := hf 8 8 3 1 _ rfl (by kernel_rfl) (opens_int Try.underlying3)
 obtain ⟨n9, h9, w9⟩ := hf 9 9 3 1 _ rfl (by kernel_rfl) (opens_int Try.underlying3)
 obtain ⟨n10, h10, w10⟩ := hf 10 10 3 1 _ rfl (by kernel_rfl) (opens_int Try.underlying3)
 obtain ⟨n11, h11, w11⟩ := hf 11 11 3 1 _ rfl (by kernel_rfl) (opens_int Try.underlying3)
 refine ⟨⟨⟨ao0, ys0.length, c0⟩, n1, n2, n3, n4, n5, n6, n7, n8, n9, n10, n11⟩, ?_, ⟨ys0, rfl, hl0, hm0, hs0, hq0⟩, wf_i64 w1, wf_i64 w2, wf_i64 w3, wf_i64 w4, wf_i64 w5, wf_i64 w6, wf_i64 w7, wf_i64 w8, wf_i64 w9, wf_i64 w10, wf_i64 w11⟩
 have e0 : cs.drop 0 = (cs.drop 0).take 1 ++ cs.drop 1 := seg cs 0 1
 have e1 : cs.drop 1 = (cs.drop 1).take 1 ++ cs.drop 2 := seg cs 1 1
 have e2 : cs.drop 2 = (cs.drop 2).take 1 ++ cs.drop 3 := seg cs 2 1
 have e3 : cs.drop 3 = (cs.drop 3).take 1 ++ cs.drop 4 := seg cs 3 1
 have e4 : cs.drop 4 = (cs.drop 4).take 1 ++ cs.drop 5 := seg cs 4 1
 have e5 : cs.drop 5 = (cs.drop 5).take 1 ++ cs.drop 6 := seg cs 5 1
 have e6 : cs.drop 6 = (cs.drop 6).take 1 ++ cs.drop 7 := seg cs 6 1
 have e7 : cs.drop 7 = (cs.drop 7).take 1 ++ cs.drop 8 := seg cs 7 1
 have e8 : cs.drop 8 = (cs.drop 8).take 1 ++ cs.drop 9 := seg cs 8 1
 have e9 : cs.drop 9 = (cs.drop 9).take 1 ++ cs.drop 10 := seg cs 9 1
 have e10 : cs.drop 10 = (cs.drop 10).take 1 ++ cs.drop 11 := seg cs 10 1
 have e11 : cs.drop 11 = (cs.drop 11).take 1 ++ cs.drop 12 := seg cs 11 1
 have eN : cs.drop 12 = [] := List.drop_eq_nil_of_le (by omega)
 have e : cs.drop 0 = [.slice ao0 ys0.length c0] ++ ([.int .i64 n1] ++ ([.int .i64 n2] ++ ([.int .i64 n3] ++ ([.int .i64 n4] ++ ([.int .i64 n5] ++ ([.int .i64 n6] ++ ([.int .i64 n7] ++ ([.int .i64 n8] ++ ([.int .i64 n9] ++ ([.int .i64 n10] ++ ([.int .i64 n11] ++ ([])))))))))))) := by rw [e0, h0, e1, h1, e2, h2, e3, h3, e4, h4, e5, h5, e6, h6, e7, h7, e8, h8, e9, h9, e10, h10, e11, h11, eN]
 rw [List.drop_zero] at e
 rw [e]
 show _ = cfgC _
 unfold cfgC
 simp

theorem opens_VAct {H : Type} {enc : TypeId × Value → H} {W : World} : Opens enc Try.prog W 72 (fun cs => ∃ a : VAct, cs = encVAct.cells a ∧ (I64 a.kind ∧ I64 a.root ∧ I64 a.parent ∧ I64 a.slot ∧ I64 a.who)) := fun fuel cs x h => by
 obtain ⟨hl, hf⟩ := opens_field Try.underlying72 h
 have hc : Try.prog.cellsOf 72 = 5 := by kernel_rfl
 rw [hc] at hl
 obtain ⟨n0, h0, w0⟩ := hf 0 0 3 1 _ rfl (by kernel_rfl) (opens_int Try.underlying3)
 obtain ⟨n1, h1, w1⟩ := hf 1 1 3 1 _ rfl (by kernel_rfl) (opens_int Try.underlying3)
 obtain ⟨n2, h2, w2⟩ := hf 2 2 3 1 _ rfl (by kernel_rfl) (opens_int Try.underlying3)
 obtain ⟨n3, h3, w3⟩ := hf 3 3 3 1 _ rfl (by kernel_rfl) (opens_int Try.underlying3)
 obtain ⟨n4, h4, w4⟩ := hf 4 4 3 1 _ rfl (by kernel_rfl) (opens_int Try.underlying3)
 refine ⟨⟨n0, n1, n2, n3, n4⟩, ?_, wf_i64 w0, wf_i64 w1, wf_i64 w2, wf_i64 w3, wf_i64 w4⟩
 have e0 : cs.drop 0 = (cs.drop 0).take 1 ++ cs.drop 1 := seg cs 0 1
 have e1 : cs.drop 1 = (cs.drop 1).take 1 ++ cs.drop 2 := seg cs 1 1
 have e2 : cs.drop 2 = (cs.drop 2).take 1 ++ cs.drop 3 := seg cs 2 1
 have e3 : cs.drop 3 = (cs.drop 3).take 1 ++ cs.drop 4 := seg cs 3 1
 have e4 : cs.drop 4 = (cs.drop 4).take 1 ++ cs.drop 5 := seg cs 4 1
 have eN : cs.drop 5 = [] := List.drop_eq_nil_of_le (by omega)
 have e : cs.drop 0 = [.int .i64 n0] ++ ([.int .i64 n1] ++ ([.int .i64 n2] ++ ([.int .i64 n3] ++ ([.int .i64 n4] ++ ([]))))) := by rw [e0, h0, e1, h1, e2, h2, e3, h3, e4, h4, eN]
 rw [List.drop_zero] at e
 rw [e]
 show _ = vActC _
 unfold vActC
 simp

set_option maxRecDepth 100000 in
set_option maxHeartbeats 1000000 in
theorem vdo_calls {w0 w : World} {l : List HProp} (pb pt pw pv pm pr pq : Nat) (ao : Option Addr) (c : Nat) (xs : List Val) (n1 n2 n3 n4 n5 n6 n7 n8 n9 n10 n11 : Int) (t : TreeS) (tb : TabS) (a : VAct) (hs : Sat w0 w ((Blk pb (.cells #[.slice ao xs.length c, .int .i64 n1, .int .i64 n2, .int .i64 n3, .int .i64 n4, .int .i64 n5, .int .i64 n6, .int .i64 n7, .int .i64 n8, .int .i64 n9, .int .i64 n10, .int .i64 n11, .pointer (some ⟨pt, 0, none⟩), .pointer (some ⟨pw, 0, none⟩), .pointer (some ⟨pv, 0, none⟩)] 131 (0, 0))) :: (TreeObj pt t) :: (WObj pw pt t.nodes (ownE xs (effT tb) t.nodes)) :: (TabObj pv tb) :: (Blk pm (.cells #[.slice ao xs.length c, .int .i64 n1, .int .i64 n2, .int .i64 n3, .int .i64 n4, .int .i64 n5, .int .i64 n6, .int .i64 n7, .int .i64 n8, .int .i64 n9, .int .i64 n10, .int .i64 n11, .pointer (some ⟨pr, 0, none⟩), .pointer (some ⟨pq, 0, none⟩)] 127 (0, 0))) :: (RTreeObj pr t) :: (RTabObj pq tb) :: l)) (hn : tb.latest.length = xs.length) (hsk : StkOK xs) (hxl : xs.length ≤ 64) (hk : ∀ y ∈ xs, y.key.length ≤ 32) (hr : Rds w0 l encVal ao xs) (hs0 : a.slot ≤ 9223372036854775807) :
  Calls Try.prog 35 #[.pointer (some ⟨pb, 0, none⟩), .pointer (some ⟨pm, 0, none⟩), .agg (vActC a).toArray] w (Ret w0 fun v l' => ∃ qt qw qr, v = .bool true ∧ l' = Blk pb (.cells #[.slice ao xs.length c, .int .i64 n1, .int .i64 n2, .int .i64 n3, .int .i64 n4, .int .i64 n5, .int .i64 n6, .int .i64 n7, .int .i64 n8, .int .i64 n9, .int .i64 n10, .int .i64 n11, .pointer (some ⟨qt, 0, none⟩), .pointer (some ⟨qw, 0, none⟩), .pointer (some ⟨pv, 0, none⟩)] 131 (0, 0)) :: TreeObj qt (stepB (shaM ([116, 111, 108, 108, 101, 114] ++ bytesC ⟨⟨ao, xs.length, c⟩, n1, n2, n3, n4, n5, n6, n7, n8, n9, n10, n11⟩ xs)) ⟨t, tb⟩ a).t :: WObj qw qt (stepB (shaM ([116, 111, 108, 108, 101, 114] ++ bytesC ⟨⟨ao, xs.length, c⟩, n1, n2, n3, n4, n5, n6, n7, n8, n9, n10, n11⟩ xs)) ⟨t, tb⟩ a).t.nodes (ownE xs (effT (stepB (shaM ([116, 111, 108, 108, 101, 114] ++ bytesC ⟨⟨ao, xs.length, c⟩, n1, n2, n3, n4, n5, n6, n7, n8, n9, n10, n11⟩ xs)) ⟨t, tb⟩ a).tb) (stepB (shaM ([116, 111, 108, 108, 101, 114] ++ bytesC ⟨⟨ao, xs.length, c⟩, n1, n2, n3, n4, n5, n6, n7, n8, n9, n10, n11⟩ xs)) ⟨t, tb⟩ a).t.nodes) :: TabObj pv (stepB (shaM ([116, 111, 108, 108, 101, 114] ++ bytesC ⟨⟨ao, xs.length, c⟩, n1, n2, n3, n4, n5, n6, n7, n8, n9, n10, n11⟩ xs)) ⟨t, tb⟩ a).tb :: Blk pm (.cells #[.slice ao xs.length c, .int .i64 n1, .int .i64 n2, .int .i64 n3, .int .i64 n4, .int .i64 n5, .int .i64 n6, .int .i64 n7, .int .i64 n8, .int .i64 n9, .int .i64 n10, .int .i64 n11, .pointer (some ⟨qr, 0, none⟩), .pointer (some ⟨pq, 0, none⟩)] 127 (0, 0)) :: RTreeObj qr (stepB (shaM ([116, 111, 108, 108, 101, 114] ++ bytesC ⟨⟨ao, xs.length, c⟩, n1, n2, n3, n4, n5, n6, n7, n8, n9, n10, n11⟩ xs)) ⟨t, tb⟩ a).t :: RTabObj pq (stepB (shaM ([116, 111, 108, 108, 101, 114] ++ bytesC ⟨⟨ao, xs.length, c⟩, n1, n2, n3, n4, n5, n6, n7, n8, n9, n10, n11⟩ xs)) ⟨t, tb⟩ a).tb :: l) := by
 refine calls_enter Try.func35 rfl rfl rfl hs ?_
 refine Zm ?_; intro bx1
 refine Zd ?_
 refine Z7 ?_
 refine cd_drawe (M := []) mx [6, 7, 8] ?_
 refine Z2z ?_
 refine Z52 ?_
 refine e_q 2 rfl (wn_none rfl) (op_field fld_127_0 rfl) ?_
 refine e_q 3 rfl (wn_none rfl) (op_lda 5 ag_65 rfl rfl (by rfl) (by simp)) ?_
 refine e_q 4 rfl (wn_none rfl) (op_field fld_72_1 rfl) ?_
 refine e_q 5 rfl (wn_none rfl) (op_ld 0 sc_3 rfl rfl (vActC_a1 _)) ?_
 refine et_2 (i1 := 6) (i2 := 7) (by kernel_rfl) ?_ ?_
 ·
  refine ei_i rfl rfl (wn_none rfl) (os_call cb_67 rfl (fun w s => bname_calls _ _ _ _ _ _ _ _ _ _ _ _ _ _ _  s ((((((((hr.cons _).cons _).cons _).cons _).cons _).cons _).cons _).cons _) (by first | assumption | omega) (by assumption))) rfl ?_; rintro _ l ⟨rfl, rfl⟩; refine ⟨[], rfl, ?_⟩
  refine Z1c ?_
  refine ei_i rfl rfl (wn_none rfl) (os_alloc (cs := (rootC Root.zero).toArray) zB_24 (by kernel_rfl)) rfl ?_; rintro _ _ ⟨bx2, rfl, rfl⟩; refine ⟨[_], rfl, ?_⟩
  refine Zz ?_
  refine ei_iN rfl rfl (wn_none rfl) (os_storera _ ag_24 rfl rfl (Free.zero _)) ?_; rintro _ _ ⟨rfl, rfl⟩; refine ⟨[_], rfl, ?_⟩
  refine Z1r ?_
  refine Z1d ?_
  refine oq (op_field fld_72_0 rfl) ?_
  refine oq (op_ld 1 sc_3 rfl rfl (vActC_a0 _)) ?_
  refine Z3r ?_
  refine Z1 ?_
  refine Z2w ?_
  refine Zd ?_
  refine cd_cond rfl (fun hb1 => ?_) (fun hb1 => ?_)
  ·have hp1 := hb1
   (try simp only [bn] at hp1)
   have hk0 : a.kind = 0 := by omega
   refine cd_pull7 ?_
   refine cd_pull3 ?_
   refine Z5x ?_
   refine Z4o ?_
   refine cd_drawe (M := [_, _, _, _, _]) mx [8, 11, 23, 26] ?_
   refine Z2z ?_
   refine Z8x ?_
   refine Z7e ?_
   refine e_q 3 rfl (wn_none rfl) (op_nilck rfl) ?_
   refine e_q 4 rfl (wn_none rfl) (op_field fld_127_0 rfl) ?_
   refine e_q 5 rfl (wn_none rfl) (op_lda 2 ag_65 rfl rfl (by rfl) (by simp)) ?_
   refine e_q 6 rfl (wn_none rfl) (op_field fld_72_2 rfl) ?_
   refine e_q 7 rfl (wn_none rfl) (op_ld 1 sc_3 rfl rfl (vActC_a2 _)) ?_
   refine e_q 9 rfl (wn_none rfl) (op_field fld_72_3 rfl) ?_
   refine e_q 10 rfl (wn_none rfl) (op_ld 1 sc_3 rfl rfl (vActC_a3 _)) ?_
   refine e_q 12 rfl (wn_none rfl) (op_move (v := .pointer _) rfl) ?_
   refine e_q 13 rfl (wn_none rfl) (op_nilck rfl) ?_
   refine e_q 14 rfl (wn_none rfl) (op_field fld_127_1 rfl) ?_
   refine e_q 15 rfl (wn_none rfl) (op_ld 2 sc_45 rfl rfl rfl) ?_
   refine Zab ?_
   refine e_q 18 rfl (wn_none rfl) (op_nilck rfl) ?_
   refine e_q 19 rfl (wn_none rfl) (op_field fld_127_0 rfl) ?_
   refine e_q 20 rfl (wn_none rfl) (op_lda 2 ag_65 rfl rfl (by rfl) (by simp)) ?_
   refine e_q 21 rfl (wn_none rfl) (op_field fld_72_2 rfl) ?_
   refine e_q 22 rfl (wn_none rfl) (op_ld 1 sc_3 rfl rfl (vActC_a2 _)) ?_
   refine e_q 24 rfl (wn_none rfl) (op_field fld_72_3 rfl) ?_
   refine e_q 25 rfl (wn_none rfl) (op_ld 1 sc_3 rfl rfl (vActC_a3 _)) ?_
   refine Zz ?_
   refine ei_i rfl rfl (wn_none rfl) (os_call cb_67 rfl (fun w s => bname_calls _ _ _ _ _ _ _ _ _ _ _ _ _ _ _  s (((((((((hr.cons _).cons _).cons _).cons _).cons _).cons _).cons _).cons _).cons _) (by first | assumption | omega) (by assumption))) rfl ?_; rintro _ l ⟨rfl, rfl⟩; refine ⟨[_, _, _, _, _], rfl, ?_⟩
   refine Z2d ?_
   refine ei_i rfl rfl (wn_none rfl) (os_pull1 (os_pull2 (os_pull3 (os_call cb_64 rfl (fun w s => BAdd_calls _ _ _ _ _ _ _ _ _ _ _ _ _ _ _ _ _ _ _ _ _ _ _  s (by assumption) (by assumption) (((((hr.cons _).cons _).cons _).cons _).cons _)))))) rfl ?_; rintro _ _ ⟨rfl, rfl⟩; refine ⟨[_, _, _, _, _], rfl, ?_⟩
   refine et_1 (i := 23) (by kernel_rfl) ?_
   refine ei_i rfl rfl (wn_none rfl) (os_call cb_67 rfl (fun w s => bname_calls _ _ _ _ _ _ _ _ _ _ _ _ _ _ _  s (((((((((hr.cons _).cons _).cons _).cons _).cons _).cons _).cons _).cons _).cons _) (by first | assumption | omega) (by assumption))) rfl ?_; rintro _ l ⟨rfl, rfl⟩; refine ⟨[_, _, _, _, _], rfl, ?_⟩
   refine et_1 (i := 26) (by kernel_rfl) ?_
   refine Z9q ?_
   refine e_q 27 rfl (wn_none rfl) (op_eq rfl rfl) ?_
   refine e_q 28 rfl (wn_none rfl) (op_assign (v := .bool _) rfl) ?_
   refine Z1t ?_
   refine Z2f ?_
   rw [stepB_0 (g := (shaM ([116, 111, 108, 108, 101, 114] ++ bytesC ⟨⟨ao, xs.length, c⟩, n1, n2, n3, n4, n5, n6, n7, n8, n9, n10, n11⟩ xs))) (b := ⟨t, tb⟩) hk0]
   exact Z9r
  have hp1 := hb1
  (try simp only [bn] at hp1)
  have hk0 : a.kind ≠ 0 := by omega
  refine Z1 ?_
  refine Z2w ?_
  refine Zd ?_
  refine cd_cond rfl (fun hb2 => ?_) (fun hb2 => ?_)
  ·have hp2 := hb2
   (try simp only [bn] at hp2)
   have hk1 : a.kind = 1 := by omega
   refine Z1 ?_
   refine oq (op_field fld_72_4 rfl) ?_
   refine oq (op_ld 1 sc_3 rfl rfl (vActC_a4 _)) ?_
   refine Z8s ?_
   refine Z2b ?_
   refine Z9s ?_
   refine Z8e ?_; intro bx3
   refine Z69 ?_
   refine Z2 ?_
   refine cd_pull7 ?_
   refine cd_pull8 ?_
   refine cd_pull9 ?_
   refine cd_pull6 ?_
   refine cd_pull7 ?_
   refine cd_pull8 ?_
   refine cd_pull9 ?_
   refine Z7 ?_
   refine cd_draw (M := [_, _, _, _, _, _, _]) mx [2, 5] (by kernel_rfl) ?_
   refine Zi ?_
   refine Z8l ?_
   refine rg_i (wn_none rfl) (os_pull1 (os_pull2 (os_pull3 (os_call cb_43 rfl (fun w s => BTake_calls _ _ _ _ _ _ _ _ _ _ _ _ _ _ _ _ _ _ _ _ _  s (by assumption) (by assumption) ((((((hr.cons _).cons _).cons _).cons _).cons _).cons _)))))) rfl rfl ?_; rintro _ _ ⟨rfl, rfl⟩; refine ⟨[_, _, _, _, _, _, _], rfl, ?_⟩
   refine Zi ?_
   refine Z8l ?_
   refine Z9t ?_
   refine Z78 ?_
   refine Z2n ?_
   refine rg_nil_then7 ?_
   refine cd_ret ?_
   refine Z2f ?_
   rw [stepB_1 (g := (shaM ([116, 111, 108, 108, 101, 114] ++ bytesC ⟨⟨ao, xs.length, c⟩, n1, n2, n3, n4, n5, n6, n7, n8, n9, n10, n11⟩ xs))) (b := ⟨t, tb⟩) hk1]
   exact Z9u
  have hp2 := hb2
  (try simp only [bn] at hp2)
  have hk1 : a.kind ≠ 1 := by omega
  refine Z1 ?_
  refine Z2w ?_
  refine Zd ?_
  refine cd_cond rfl (fun hb3 => ?_) (fun hb3 => ?_)
  ·have hp3 := hb3
   (try simp only [bn] at hp3)
   have hk2 : a.kind = 2 := by omega
   rcases hix : idxOf t.nodes (bName (shaM ([116, 111, 108, 108, 101, 114] ++ bytesC ⟨⟨ao, xs.length, c⟩, n1, n2, n3, n4, n5, n6, n7, n8, n9, n10, n11⟩ xs)) a.root) with _ | x0
   ·
    refine cd_pull6 ?_
    refine cd_pull7 ?_
    refine Z5x ?_
    refine Z4o ?_
    refine Z8m ?_
    refine Zi ?_
    refine Z15 ?_
    refine rg_i (wn_none rfl) (os_pull1 (os_pull2 (os_call cb_44 rfl (fun w s => BKeepN_calls _ _ _ _ _ _ _ _ _ _ _ _ _ _ _ _ _ _ _ _ _  s (by assumption) (by assumption))))) rfl rfl ?_; rintro _ _ ⟨rfl, rfl⟩; refine ⟨[_, _, _, _, _], rfl, ?_⟩
    refine Zi ?_
    refine Z15 ?_
    refine rg_i (wn_none rfl) (os_pull3 (os_pull4 (os_call cb_69 rfl (fun w s => RBKeepN_calls _ _ _ _ _ _ _ _ _ _ _ _ _ _ _ _ _ _ _  s (by assumption))))) rfl rfl ?_; rintro _ _ ⟨rfl, rfl⟩; refine ⟨[_, _, _, _, _], rfl, ?_⟩
    refine Z78 ?_
    refine Z2n ?_
    refine rg_nil_then5 ?_
    refine cd_ret ?_
    refine Z2f ?_
    rw [stepB_2 (g := (shaM ([116, 111, 108, 108, 101, 114] ++ bytesC ⟨⟨ao, xs.length, c⟩, n1, n2, n3, n4, n5, n6, n7, n8, n9, n10, n11⟩ xs))) (b := ⟨t, tb⟩) hk2, keepT_no hix]
    exact Z8n
   refine cd_pull6 ?_
   refine cd_pull7 ?_
   refine Z5x ?_
   refine Z4o ?_
   refine Z8m ?_
   refine Zi ?_
   refine Z15 ?_
   refine rg_i (wn_none rfl) (os_pull1 (os_pull2 (os_call cb_44 rfl (fun w s => BKeepS_calls _ _ _ _ _ _ _ _ _ _ _ _ _ _ _ _ _ _ _ _ _ _  s (by assumption) (by assumption))))) rfl rfl ?_; rintro _ _ ⟨qt10, qw10, rfl, rfl⟩; refine ⟨[_, _, _, _, _], rfl, ?_⟩
   refine Zi ?_
   refine Z15 ?_
   refine rg_i (wn_none rfl) (os_pull3 (os_pull4 (os_call cb_69 rfl (fun w s => RBKeepS_calls _ _ _ _ _ _ _ _ _ _ _ _ _ _ _ _ _ _ _ _  s (by assumption))))) rfl rfl ?_; rintro _ _ ⟨qr11, rfl, rfl⟩; refine ⟨[_, _, _, _, _], rfl, ?_⟩
   refine Z78 ?_
   refine Z2n ?_
   refine rg_nil_then5 ?_
   refine cd_ret ?_
   refine Z2f ?_
   rw [stepB_2 (g := (shaM ([116, 111, 108, 108, 101, 114] ++ bytesC ⟨⟨ao, xs.length, c⟩, n1, n2, n3, n4, n5, n6, n7, n8, n9, n10, n11⟩ xs))) (b := ⟨t, tb⟩) hk2, keepT_yes hix]
   exact Z8n
  have hp3 := hb3
  (try simp only [bn] at hp3)
  have hk2 : a.kind ≠ 2 := by omega
  refine cd_skip ?_
  refine Z7v ?_
  refine Zc ?_
  refine Z8s ?_
  refine ol_pull5 ?_
  refine Zr ?_
  refine oi (os_call cb_70 rfl (fun w s => BForget_calls _ _ _ _ _ _ _ _ _ _ _ _ _ _ _ _ _ _ _ _  s (by omega))) ?_; rintro _ _ ⟨rfl, rfl⟩
  refine Z2 ?_
  refine cd_pull8 ?_
  refine Z7 ?_
  refine cd_draw (M := [_]) mx [6] (by kernel_rfl) ?_
  refine Z5 ?_
  refine rg_q (wn_none rfl) (op_field fld_127_2 rfl) rfl rfl ?_
  refine rg_q (wn_none rfl) (op_ld 6 sc_125 rfl rfl rfl) rfl rfl ?_
  refine rg_q (wn_none rfl) (op_field fld_72_3 rfl) rfl rfl ?_
  refine rg_q (wn_none rfl) (op_ld 3 sc_3 rfl rfl (vActC_a3 _)) rfl rfl ?_
  refine Z9v ?_
  refine rg_nil_then1 ?_
  refine Z1 ?_
  refine Zo ?_
  rw [stepB_3 (g := (shaM ([116, 111, 108, 108, 101, 114] ++ bytesC ⟨⟨ao, xs.length, c⟩, n1, n2, n3, n4, n5, n6, n7, n8, n9, n10, n11⟩ xs))) (b := ⟨t, tb⟩) hk0 hk1 hk2, forget_eff]
  exact Z9w
 refine ei_i rfl rfl (wn_none rfl) (os_alloc (cs := (rootC Root.zero).toArray) zB_24 (by kernel_rfl)) rfl ?_; rintro _ _ ⟨bx4, rfl, rfl⟩; refine ⟨[_], rfl, ?_⟩
 refine Z1o ?_
 refine ei_i rfl rfl (wn_none rfl) (os_call cb_67 rfl (fun w s => bname_calls _ _ _ _ _ _ _ _ _ _ _ _ _ _ _  s (((((((((hr.cons _).cons _).cons _).cons _).cons _).cons _).cons _).cons _).cons _) (by first | assumption | omega) (by assumption))) rfl ?_; rintro _ l ⟨rfl, rfl⟩; refine ⟨[_], rfl, ?_⟩
 refine Zz ?_
 refine ei_iN rfl rfl (wn_none rfl) (os_storera _ ag_24 rfl rfl (Free.zero _)) ?_; rintro _ _ ⟨rfl, rfl⟩; refine ⟨[_], rfl, ?_⟩
 refine Z1r ?_
 refine Z1d ?_
 refine oq (op_field fld_72_0 rfl) ?_
 refine oq (op_ld 1 sc_3 rfl rfl (vActC_a0 _)) ?_
 refine Z3r ?_
 refine Z1 ?_
 refine Z2w ?_
 refine Zd ?_
 refine cd_cond rfl (fun hb4 => ?_) (fun hb4 => ?_)
 ·have hp4 := hb4
  (try simp only [bn] at hp4)
  have hk0 : a.kind = 0 := by omega
  refine cd_pull7 ?_
  refine cd_pull3 ?_
  refine Z5x ?_
  refine Z4o ?_
  refine cd_drawe (M := [_, _, _, _, _]) mx [8, 11, 23, 26] ?_
  refine Z2z ?_
  refine Z8x ?_
  refine Z7e ?_
  refine e_q 3 rfl (wn_none rfl) (op_nilck rfl) ?_
  refine e_q 4 rfl (wn_none rfl) (op_field fld_127_0 rfl) ?_
  refine e_q 5 rfl (wn_none rfl) (op_lda 2 ag_65 rfl rfl (by rfl) (by simp)) ?_
  refine e_q 6 rfl (wn_none rfl) (op_field fld_72_2 rfl) ?_
  refine e_q 7 rfl (wn_none rfl) (op_ld 1 sc_3 rfl rfl (vActC_a2 _)) ?_
  refine e_q 9 rfl (wn_none rfl) (op_field fld_72_3 rfl) ?_
  refine e_q 10 rfl (wn_none rfl) (op_ld 1 sc_3 rfl rfl (vActC_a3 _)) ?_
  refine e_q 12 rfl (wn_none rfl) (op_move (v := .pointer _) rfl) ?_
  refine e_q 13 rfl (wn_none rfl) (op_nilck rfl) ?_
  refine e_q 14 rfl (wn_none rfl) (op_field fld_127_1 rfl) ?_
  refine e_q 15 rfl (wn_none rfl) (op_ld 2 sc_45 rfl rfl rfl) ?_
  refine Zab ?_
  refine e_q 18 rfl (wn_none rfl) (op_nilck rfl) ?_
  refine e_q 19 rfl (wn_none rfl) (op_field fld_127_0 rfl) ?_
  refine e_q 20 rfl (wn_none rfl) (op_lda 2 ag_65 rfl rfl (by rfl) (by simp)) ?_
  refine e_q 21 rfl (wn_none rfl) (op_field fld_72_2 rfl) ?_
  refine e_q 22 rfl (wn_none rfl) (op_ld 1 sc_3 rfl rfl (vActC_a2 _)) ?_
  refine e_q 24 rfl (wn_none rfl) (op_field fld_72_3 rfl) ?_
  refine e_q 25 rfl (wn_none rfl) (op_ld 1 sc_3 rfl rfl (vActC_a3 _)) ?_
  refine Zz ?_
  refine ei_i rfl rfl (wn_none rfl) (os_call cb_67 rfl (fun w s => bname_calls _ _ _ _ _ _ _ _ _ _ _ _ _ _ _  s (((((((((hr.cons _).cons _).cons _).cons _).cons _).cons _).cons _).cons _).cons _) (by first | assumption | omega) (by assumption))) rfl ?_; rintro _ l ⟨rfl, rfl⟩; refine ⟨[_, _, _, _, _], rfl, ?_⟩
  refine Z2d ?_
  refine ei_i rfl rfl (wn_none rfl) (os_pull1 (os_pull2 (os_pull3 (os_call cb_64 rfl (fun w s => BAdd_calls _ _ _ _ _ _ _ _ _ _ _ _ _ _ _ _ _ _ _ _ _ _ _  s (by assumption) (by assumption) (((((hr.cons _).cons _).cons _).cons _).cons _)))))) rfl ?_; rintro _ _ ⟨rfl, rfl⟩; refine ⟨[_, _, _, _, _], rfl, ?_⟩
  refine et_1 (i := 23) (by kernel_rfl) ?_
  refine ei_i rfl rfl (wn_none rfl) (os_call cb_67 rfl (fun w s => bname_calls _ _ _ _ _ _ _ _ _ _ _ _ _ _ _  s (((((((((hr.cons _).cons _).cons _).cons _).cons _).cons _).cons _).cons _).cons _) (by first | assumption | omega) (by assumption))) rfl ?_; rintro _ l ⟨rfl, rfl⟩; refine ⟨[_, _, _, _, _], rfl, ?_⟩
  refine et_1 (i := 26) (by kernel_rfl) ?_
  refine Z9q ?_
  refine e_q 27 rfl (wn_none rfl) (op_eq rfl rfl) ?_
  refine e_q 28 rfl (wn_none rfl) (op_assign (v := .bool _) rfl) ?_
  refine Z1t ?_
  refine Z2f ?_
  rw [stepB_0 (g := (shaM ([116, 111, 108, 108, 101, 114] ++ bytesC ⟨⟨ao, xs.length, c⟩, n1, n2, n3, n4, n5, n6, n7, n8, n9, n10, n11⟩ xs))) (b := ⟨t, tb⟩) hk0]
  exact Z9r
 have hp4 := hb4
 (try simp only [bn] at hp4)
 have hk0 : a.kind ≠ 0 := by omega
 refine Z1 ?_
 refine Z2w ?_
 refine Zd ?_
 refine cd_cond rfl (fun hb5 => ?_) (fun hb5 => ?_)
 ·have hp5 := hb5
  (try simp only [bn] at hp5)
  have hk1 : a.kind = 1 := by omega
  refine Z1 ?_
  refine oq (op_field fld_72_4 rfl) ?_
  refine oq (op_ld 1 sc_3 rfl rfl (vActC_a4 _)) ?_
  refine Z8s ?_
  refine Z2b ?_
  refine Z9s ?_
  refine Z8e ?_; intro bx5
  refine Z69 ?_
  refine Z2 ?_
  refine cd_pull7 ?_
  refine cd_pull8 ?_
  refine cd_pull9 ?_
  refine cd_pull6 ?_
  refine cd_pull7 ?_
  refine cd_pull8 ?_
  refine cd_pull9 ?_
  refine Z7 ?_
  refine cd_draw (M := [_, _, _, _, _, _, _]) mx [2, 5] (by kernel_rfl) ?_
  refine Zi ?_
  refine Z8l ?_
  refine rg_i (wn_none rfl) (os_pull1 (os_pull2 (os_pull3 (os_call cb_43 rfl (fun w s => BTake_calls _ _ _ _ _ _ _ _ _ _ _ _ _ _ _ _ _ _ _ _ _  s (by assumption) (by assumption) ((((((hr.cons _).cons _).cons _).cons _).cons _).cons _)))))) rfl rfl ?_; rintro _ _ ⟨rfl, rfl⟩; refine ⟨[_, _, _, _, _, _, _], rfl, ?_⟩
  refine Zi ?_
  refine Z8l ?_
  refine Z9t ?_
  refine Z78 ?_
  refine Z2n ?_
  refine rg_nil_then7 ?_
  refine cd_ret ?_
  refine Z2f ?_
  rw [stepB_1 (g := (shaM ([116, 111, 108, 108, 101, 114] ++ bytesC ⟨⟨ao, xs.length, c⟩, n1, n2, n3, n4, n5, n6, n7, n8, n9, n10, n11⟩ xs))) (b := ⟨t, tb⟩) hk1]
  exact Z9u
 have hp5 := hb5
 (try simp only [bn] at hp5)
 have hk1 : a.kind ≠ 1 := by omega
 refine Z1 ?_
 refine Z2w ?_
 refine Zd ?_
 refine cd_cond rfl (fun hb6 => ?_) (fun hb6 => ?_)
 ·have hp6 := hb6
  (try simp only [bn] at hp6)
  have hk2 : a.kind = 2 := by omega
  rcases hix : idxOf t.nodes (bName (shaM ([116, 111, 108, 108, 101, 114] ++ bytesC ⟨⟨ao, xs.length, c⟩, n1, n2, n3, n4, n5, n6, n7, n8, n9, n10, n11⟩ xs)) a.root) with _ | x0
  ·
   refine cd_pull6 ?_
   refine cd_pull7 ?_
   refine Z5x ?_
   refine Z4o ?_
   refine Z8m ?_
   refine Zi ?_
   refine Z15 ?_
   refine rg_i (wn_none rfl) (os_pull1 (os_pull2 (os_call cb_44 rfl (fun w s => BKeepN_calls _ _ _ _ _ _ _ _ _ _ _ _ _ _ _ _ _ _ _ _ _  s (by assumption) (by assumption))))) rfl rfl ?_; rintro _ _ ⟨rfl, rfl⟩; refine ⟨[_, _, _, _, _], rfl, ?_⟩
   refine Zi ?_
   refine Z15 ?_
   refine rg_i (wn_none rfl) (os_pull3 (os_pull4 (os_call cb_69 rfl (fun w s => RBKeepN_calls _ _ _ _ _ _ _ _ _ _ _ _ _ _ _ _ _ _ _  s (by assumption))))) rfl rfl ?_; rintro _ _ ⟨rfl, rfl⟩; refine ⟨[_, _, _, _, _], rfl, ?_⟩
   refine Z78 ?_
   refine Z2n ?_
   refine rg_nil_then5 ?_
   refine cd_ret ?_
   refine Z2f ?_
   rw [stepB_2 (g := (shaM ([116, 111, 108, 108, 101, 114] ++ bytesC ⟨⟨ao, xs.length, c⟩, n1, n2, n3, n4, n5, n6, n7, n8, n9, n10, n11⟩ xs))) (b := ⟨t, tb⟩) hk2, keepT_no hix]
   exact Z8n
  refine cd_pull6 ?_
  refine cd_pull7 ?_
  refine Z5x ?_
  refine Z4o ?_
  refine Z8m ?_
  refine Zi ?_
  refine Z15 ?_
  refine rg_i (wn_none rfl) (os_pull1 (os_pull2 (os_call cb_44 rfl (fun w s => BKeepS_calls _ _ _ _ _ _ _ _ _ _ _ _ _ _ _ _ _ _ _ _ _ _  s (by assumption) (by assumption))))) rfl rfl ?_; rintro _ _ ⟨qt23, qw23, rfl, rfl⟩; refine ⟨[_, _, _, _, _], rfl, ?_⟩
  refine Zi ?_
  refine Z15 ?_
  refine rg_i (wn_none rfl) (os_pull3 (os_pull4 (os_call cb_69 rfl (fun w s => RBKeepS_calls _ _ _ _ _ _ _ _ _ _ _ _ _ _ _ _ _ _ _ _  s (by assumption))))) rfl rfl ?_; rintro _ _ ⟨qr24, rfl, rfl⟩; refine ⟨[_, _, _, _, _], rfl, ?_⟩
  refine Z78 ?_
  refine Z2n ?_
  refine rg_nil_then5 ?_
  refine cd_ret ?_
  refine Z2f ?_
  rw [stepB_2 (g := (shaM ([116, 111, 108, 108, 101, 114] ++ bytesC ⟨⟨ao, xs.length, c⟩, n1, n2, n3, n4, n5, n6, n7, n8, n9, n10, n11⟩ xs))) (b := ⟨t, tb⟩) hk2, keepT_yes hix]
  exact Z8n
 have hp6 := hb6
 (try simp only [bn] at hp6)
 have hk2 : a.kind ≠ 2 := by omega
 refine cd_skip ?_
 refine Z7v ?_
 refine Zc ?_
 refine Z8s ?_
 refine ol_pull5 ?_
 refine Zr ?_
 refine oi (os_call cb_70 rfl (fun w s => BForget_calls _ _ _ _ _ _ _ _ _ _ _ _ _ _ _ _ _ _ _ _  s (by omega))) ?_; rintro _ _ ⟨rfl, rfl⟩
 refine Z2 ?_
 refine cd_pull8 ?_
 refine Z7 ?_
 refine cd_draw (M := [_]) mx [6] (by kernel_rfl) ?_
 refine Z5 ?_
 refine rg_q (wn_none rfl) (op_field fld_127_2 rfl) rfl rfl ?_
 refine rg_q (wn_none rfl) (op_ld 6 sc_125 rfl rfl rfl) rfl rfl ?_
 refine rg_q (wn_none rfl) (op_field fld_72_3 rfl) rfl rfl ?_
 refine rg_q (wn_none rfl) (op_ld 3 sc_3 rfl rfl (vActC_a3 _)) rfl rfl ?_
 refine Z9v ?_
 refine rg_nil_then1 ?_
 refine Z1 ?_
 refine Zo ?_
 rw [stepB_3 (g := (shaM ([116, 111, 108, 108, 101, 114] ++ bytesC ⟨⟨ao, xs.length, c⟩, n1, n2, n3, n4, n5, n6, n7, n8, n9, n10, n11⟩ xs))) (b := ⟨t, tb⟩) hk0 hk1 hk2, forget_eff]
 exact Z9w

set_option maxRecDepth 100000 in
set_option maxHeartbeats 1000000 in
theorem vbegun_calls {w0 w : World} {l : List HProp} (ao : Option Addr) (c : Nat) (xs : List Val) (n1 n2 n3 n4 n5 n6 n7 n8 n9 n10 n11 : Int) (lo : Option Addr) (lc : Nat) (acts : List VAct) (most : Int) (hs : Sat w0 w (l)) (hr : Rds w0 l encVal ao xs) (hq : ∀ y ∈ xs, I64 y.stake ∧ y.key.length ≤ maxLen) (hm : most ≤ 1000) :
  Calls Try.prog 34 #[.agg (cfgC ⟨⟨ao, xs.length, c⟩, n1, n2, n3, n4, n5, n6, n7, n8, n9, n10, n11⟩).toArray, .slice lo acts.length lc, .int .i64 most] w (Ret w0 fun v l' => ((greatC xs = true ∨ most < (acts.length : Int) ∨ goodC ⟨⟨ao, xs.length, c⟩, n1, n2, n3, n4, n5, n6, n7, n8, n9, n10, n11⟩ xs = false) ∧ v = .tuple #[.pointer none, .pointer none, .bool false] ∧ l' = l) ∨ (goodC ⟨⟨ao, xs.length, c⟩, n1, n2, n3, n4, n5, n6, n7, n8, n9, n10, n11⟩ xs = true ∧ (acts.length : Int) ≤ most ∧ ∃ pb pt pw pv pm pr pq, v = .tuple #[.pointer (some ⟨pb, 0, none⟩), .pointer (some ⟨pm, 0, none⟩), .bool true] ∧ l' = Blk pb (.cells #[.slice ao xs.length c, .int .i64 n1, .int .i64 n2, .int .i64 n3, .int .i64 n4, .int .i64 n5, .int .i64 n6, .int .i64 n7, .int .i64 n8, .int .i64 n9, .int .i64 n10, .int .i64 n11, .pointer (some ⟨pt, 0, none⟩), .pointer (some ⟨pw, 0, none⟩), .pointer (some ⟨pv, 0, none⟩)] 131 (0, 0)) :: TreeObj pt (newB (shaM ([116, 111, 108, 108, 101, 114] ++ bytesC ⟨⟨ao, xs.length, c⟩, n1, n2, n3, n4, n5, n6, n7, n8, n9, n10, n11⟩ xs)) n3 xs.length n1).t :: WObj pw pt (newB (shaM ([116, 111, 108, 108, 101, 114] ++ bytesC ⟨⟨ao, xs.length, c⟩, n1, n2, n3, n4, n5, n6, n7, n8, n9, n10, n11⟩ xs)) n3 xs.length n1).t.nodes (ownE xs (effT (newB (shaM ([116, 111, 108, 108, 101, 114] ++ bytesC ⟨⟨ao, xs.length, c⟩, n1, n2, n3, n4, n5, n6, n7, n8, n9, n10, n11⟩ xs)) n3 xs.length n1).tb) (newB (shaM ([116, 111, 108, 108, 101, 114] ++ bytesC ⟨⟨ao, xs.length, c⟩, n1, n2, n3, n4, n5, n6, n7, n8, n9, n10, n11⟩ xs)) n3 xs.length n1).t.nodes) :: TabObj pv (newB (shaM ([116, 111, 108, 108, 101, 114] ++ bytesC ⟨⟨ao, xs.length, c⟩, n1, n2, n3, n4, n5, n6, n7, n8, n9, n10, n11⟩ xs)) n3 xs.length n1).tb :: Blk pm (.cells #[.slice ao xs.length c, .int .i64 n1, .int .i64 n2, .int .i64 n3, .int .i64 n4, .int .i64 n5, .int .i64 n6, .int .i64 n7, .int .i64 n8, .int .i64 n9, .int .i64 n10, .int .i64 n11, .pointer (some ⟨pr, 0, none⟩), .pointer (some ⟨pq, 0, none⟩)] 127 (0, 0)) :: RTreeObj pr (newB (shaM ([116, 111, 108, 108, 101, 114] ++ bytesC ⟨⟨ao, xs.length, c⟩, n1, n2, n3, n4, n5, n6, n7, n8, n9, n10, n11⟩ xs)) n3 xs.length n1).t :: RTabObj pq (newB (shaM ([116, 111, 108, 108, 101, 114] ++ bytesC ⟨⟨ao, xs.length, c⟩, n1, n2, n3, n4, n5, n6, n7, n8, n9, n10, n11⟩ xs)) n3 xs.length n1).tb :: l)) := by
 refine calls_enter Try.func34 rfl rfl rfl hs ?_
 refine Z3h ?_; intro bx1
 refine Zh ?_
 refine Zd ?_
 refine Z1d ?_
 refine Z3o ?_
 refine oi (os_call cb_65 rfl (fun w s => Great_calls _ _ _ _ _ _ _ _ _ _ _ _ _ _  s (hr.cons _))) ?_; rintro _ l ⟨rfl, rfl⟩
 refine Z6 ?_
 refine ol_split 14 rfl (fun hb1 => ?_) (fun hb1 => ?_)
 ·have hp1 := hb1
  (try simp only [bn] at hp1)
  have hb1 : greatC xs = true := by simpa using hb1
  refine ol_skip (wn_some rfl rfl rfl hb1 rfl) rfl ?_
  refine ol_skip (wn_some rfl rfl rfl hb1 rfl) rfl ?_
  refine ol_skip (wn_some rfl rfl rfl hb1 rfl) rfl ?_
  refine ol_skip (wn_some rfl rfl rfl hb1 rfl) rfl ?_
  refine oq (op_pick_t (v := .bool _) rfl hb1 rfl) ?_
  refine Z38 ?_
  refine Zh ?_
  refine Zx ?_
  exact px_ret3 rfl (v1 := .pointer _) (v2 := .pointer _) (v3 := .bool _) rfl rfl rfl (fun _ s => (s.del 0)) (.inl ⟨.inl hb1, rfl, rfl⟩)
 have hp1 := hb1
 (try simp only [bn] at hp1)
 have hgr : greatC xs = false := by simpa using hb1
 have hxl : xs.length ≤ 100 := by unfold greatC at hgr; rw [Bool.or_eq_false_iff] at hgr; have := of_decide_eq_false hgr.1; omega
 refine ol_q (wn_some rfl rfl rfl hb1 rfl) (op_move (v := .slice _ _ _) rfl) rfl ?_
 refine ol_q (wn_some rfl rfl rfl hb1 rfl) (op_len_slice Try.underlying66 rfl) rfl ?_
 refine ol_q (wn_some rfl rfl rfl hb1 rfl) (op_move (v := .int _ _) rfl) rfl ?_
 refine ol_q (wn_some rfl rfl rfl hb1 rfl) (op_gt rfl rfl) rfl ?_
 refine oq (op_pick_f (v := .bool _) rfl hb1 rfl) ?_
 refine Z2 ?_
 refine cd_cond rfl (fun hb2 => ?_) (fun hb2 => ?_)
 ·have hp2 := hb2
  (try simp only [bn] at hp2)
  refine Z2q ?_
  refine Zh ?_
  refine Zx ?_
  exact px_ret3 rfl (v1 := .pointer _) (v2 := .pointer _) (v3 := .bool _) rfl rfl rfl (fun _ s => (s.del 0)) (.inl ⟨.inr (.inl (by omega)), rfl, rfl⟩)
 have hp2 := hb2
 (try simp only [bn] at hp2)
 refine Zn ?_
 rcases hgc : goodC ⟨⟨ao, xs.length, c⟩, n1, n2, n3, n4, n5, n6, n7, n8, n9, n10, n11⟩ xs
 ·
  refine Z1 ?_
  refine Z3o ?_
  refine oi (os_call cb_62 rfl (fun w s => BNewN_calls _ _ _ _ _ _ _ _ _ _ _ _ _ _  s (by assumption) (hr.cons _) (by omega))) ?_; rintro _ l ⟨rfl, rfl⟩
  refine Zh ?_
  refine Z14 ?_
  refine Z3o ?_
  refine oi (os_call cb_66 rfl (fun w s => RBNewN_calls _ _ _ _ _ _ _ _ _ _ _ _ _ _  s (by assumption) (hr.cons _) (by omega) (by assumption))) ?_; rintro _ l ⟨rfl, rfl⟩
  refine Z2v ?_
  refine Z4v ?_
  refine Z4e ?_
  refine Zh ?_
  refine Zd ?_
  refine Z32 ?_
  refine Z6 ?_
  refine Z5v ?_
  refine oq (op_pick_f (v := .bool _) rfl rfl rfl) ?_
  refine Zh ?_
  refine Zh ?_
  refine Zo ?_
  exact px_ret3 rfl (v1 := .pointer _) (v2 := .pointer _) (v3 := .bool _) rfl rfl rfl (fun _ s => (s.del 0)) (.inl ⟨.inr (.inr rfl), rfl, rfl⟩)
 refine Z1 ?_
 refine Z3o ?_
 refine oi (os_call cb_62 rfl (fun w s => BNewS_calls _ _ _ _ _ _ _ _ _ _ _ _ _ _  s (by assumption) (hr.cons _))) ?_; rintro _ _ ⟨pb4, pt4, pw4, pv4, rfl, rfl⟩
 refine Zh ?_
 refine Z14 ?_
 refine oq (op_lda (L := cfgC _) 4 ag_65 rfl rfl (cfgC_ta _) (by simp [cfgC_len])) ?_
 refine oi (os_call cb_66 rfl (fun w s => RBNewS_calls _ _ _ _ _ _ _ _ _ _ _ _ _ _  s (by assumption) (((((hr.cons _).cons _).cons _).cons _).cons _) (by assumption))) ?_; rintro _ _ ⟨pm5, pr5, pq5, rfl, rfl⟩
 refine Z2v ?_
 refine Z4v ?_
 refine Z4e ?_
 refine Zh ?_
 refine Zd ?_
 refine Z32 ?_
 refine Z6 ?_
 refine Z6 ?_
 refine ol_q (wn_some rfl rfl rfl rfl rfl) (op_move (v := .pointer _) rfl) rfl ?_
 refine ol_q (wn_some rfl rfl rfl rfl rfl) (op_nenil Try.underlying67 rfl rfl) rfl ?_
 refine Z5d ?_
 refine Zh ?_
 refine Zh ?_
 refine Zo ?_
 exact px_ret3 rfl (v1 := .pointer _) (v2 := .pointer _) (v3 := .bool true) (l' := Blk pb4 (.cells #[.slice ao xs.length c, .int .i64 n1, .int .i64 n2, .int .i64 n3, .int .i64 n4, .int .i64 n5, .int .i64 n6, .int .i64 n7, .int .i64 n8, .int .i64 n9, .int .i64 n10, .int .i64 n11, .pointer (some ⟨_, 0, none⟩), .pointer (some ⟨_, 0, none⟩), .pointer (some ⟨_, 0, none⟩)] 131 (0, 0)) :: TreeObj _ (newB (shaM ([116, 111, 108, 108, 101, 114] ++ bytesC ⟨⟨ao, xs.length, c⟩, n1, n2, n3, n4, n5, n6, n7, n8, n9, n10, n11⟩ xs)) n3 xs.length n1).t :: WObj _ _ (newB (shaM ([116, 111, 108, 108, 101, 114] ++ bytesC ⟨⟨ao, xs.length, c⟩, n1, n2, n3, n4, n5, n6, n7, n8, n9, n10, n11⟩ xs)) n3 xs.length n1).t.nodes (ownE xs (effT (newB (shaM ([116, 111, 108, 108, 101, 114] ++ bytesC ⟨⟨ao, xs.length, c⟩, n1, n2, n3, n4, n5, n6, n7, n8, n9, n10, n11⟩ xs)) n3 xs.length n1).tb) (newB (shaM ([116, 111, 108, 108, 101, 114] ++ bytesC ⟨⟨ao, xs.length, c⟩, n1, n2, n3, n4, n5, n6, n7, n8, n9, n10, n11⟩ xs)) n3 xs.length n1).t.nodes) :: TabObj _ (newB (shaM ([116, 111, 108, 108, 101, 114] ++ bytesC ⟨⟨ao, xs.length, c⟩, n1, n2, n3, n4, n5, n6, n7, n8, n9, n10, n11⟩ xs)) n3 xs.length n1).tb :: Blk pm5 (.cells #[.slice ao xs.length c, .int .i64 n1, .int .i64 n2, .int .i64 n3, .int .i64 n4, .int .i64 n5, .int .i64 n6, .int .i64 n7, .int .i64 n8, .int .i64 n9, .int .i64 n10, .int .i64 n11, .pointer (some ⟨_, 0, none⟩), .pointer (some ⟨_, 0, none⟩)] 127 (0, 0)) :: RTreeObj _ (newB (shaM ([116, 111, 108, 108, 101, 114] ++ bytesC ⟨⟨ao, xs.length, c⟩, n1, n2, n3, n4, n5, n6, n7, n8, n9, n10, n11⟩ xs)) n3 xs.length n1).t :: RTabObj _ (newB (shaM ([116, 111, 108, 108, 101, 114] ++ bytesC ⟨⟨ao, xs.length, c⟩, n1, n2, n3, n4, n5, n6, n7, n8, n9, n10, n11⟩ xs)) n3 xs.length n1).tb :: l) rfl rfl rfl (fun _ s => ((((((((s.del 7).pull 2).pull 2).pull 2).pull 6).pull 6).pull 6).pull 6)) (.inr ⟨rfl, by omega, _, _, _, _, _, _, _, rfl, rfl⟩)
end Go.SL

set_option linter.unusedVariables false
set_option linter.unusedSimpArgs false
namespace Go.SL
open Go.Proofs

set_option maxRecDepth 100000 in
set_option maxHeartbeats 1000000 in
theorem vAlive_calls {w0 w : World} {l : List HProp}  (hs : Sat w0 w (l))  :
  Calls Try.prog 33 #[] w (Ret w0 fun v l' => v = .bool true ∧ l' = l) := by
 refine calls_enter Try.func33 rfl rfl rfl hs ?_
 refine Z1 ?_
 refine Z3s ?_
 refine oq (op_build (L := valC ⟨5, [107]⟩) (vs := [(0, .int _ _), (1, .string _)]) bB_78 rfl ⟨⟨rfl, by rw [valC_len]; rfl⟩, ⟨rfl, by rw [valC_len]; rfl⟩, trivial⟩ (by simp [fill2, valC, Val.zero, SlV.v, B, Value.cells])) ?_
 refine oi (os_bslice (E := encVal) [_] (ys := alX) sB_63 zv_78 rfl rfl rfl rfl (by decide)) ?_; rintro _ _ ⟨ao1, rfl, rfl⟩
 refine oq (op_build (L := cfgC ⟨⟨ao1, 1, 1⟩, 4, 1, 9, 1, 1, 1, 1, 1, 1, 1, 1⟩) (vs := [(0, (SlV.v ⟨_, _, _⟩)), (1, .int _ _), (2, .int _ _), (3, .int _ _), (4, .int _ _), (5, .int _ _), (6, .int _ _), (7, .int _ _), (8, .int _ _), (9, .int _ _), (10, .int _ _), (11, .int _ _)]) bB_65 rfl ⟨⟨rfl, by rw [cfgC_len]; rfl⟩, ⟨rfl, by rw [cfgC_len]; rfl⟩, ⟨rfl, by rw [cfgC_len]; rfl⟩, ⟨rfl, by rw [cfgC_len]; rfl⟩, ⟨rfl, by rw [cfgC_len]; rfl⟩, ⟨rfl, by rw [cfgC_len]; rfl⟩, ⟨rfl, by rw [cfgC_len]; rfl⟩, ⟨rfl, by rw [cfgC_len]; rfl⟩, ⟨rfl, by rw [cfgC_len]; rfl⟩, ⟨rfl, by rw [cfgC_len]; rfl⟩, ⟨rfl, by rw [cfgC_len]; rfl⟩, ⟨rfl, by rw [cfgC_len]; rfl⟩, trivial⟩ (by simp [fill2, cfgC, Cfg.zero, SlV.v, B, Value.cells])) ?_
 refine oi (os_alloc (cs := (cfgC Cfg.zero).toArray) zB_65 (by kernel_rfl)) ?_; rintro _ _ ⟨bx1, rfl, rfl⟩
 refine oN (os_storew (cfgC _) ag_65 rfl rfl (cfgC_len _) (cfgC_one _) (by simp [cfgC_len]) (Free.zero _)) ?_; rintro _ _ ⟨rfl, rfl⟩
 refine Z2 ?_
 have hgg := alB_g ao1 alX.length 1
 have hsk := goodC_stk hgg
 have hkk : ∀ y ∈ alX, y.key.length ≤ 32 := by decide
 have hh1 : headW (TreeS.new alF 0 9).nodes (ownE alX (effT (TabS.new alX.length 4)) (TreeS.new alF 0 9).nodes) = alF := alB_1
 have hh2 : ((TreeS.new alF 0 9).add (nameR 1) alF 2).1 = 0 := alB_2
 have hh3 : BookS.take ⟨((TreeS.new alF 0 9).add (nameR 1) alF 2).2, (TabS.new alX.length 4)⟩ ⟨0, 1, nameR 1⟩ = (6, (TabS.new alX.length 4)) := alB_3
 have hh4 : (BookS.take ⟨((TreeS.new alF 0 9).add (nameR 1) alF 2).2, (TabS.new alX.length 4)⟩ ⟨0, 2, nameR 1⟩).1 = 0 := alB_4
 have hh5 : ofF ((TreeS.new alF 0 9).add (nameR 1) alF 2).2 (ownE alX (effT (BookS.take ⟨((TreeS.new alF 0 9).add (nameR 1) alF 2).2, (TabS.new alX.length 4)⟩ ⟨0, 2, nameR 1⟩).2) ((TreeS.new alF 0 9).add (nameR 1) alF 2).2.nodes).length (sumN ((TreeS.new alF 0 9).add (nameR 1) alF 2).2.nodes (ownE alX (effT (BookS.take ⟨((TreeS.new alF 0 9).add (nameR 1) alF 2).2, (TabS.new alX.length 4)⟩ ⟨0, 2, nameR 1⟩).2) ((TreeS.new alF 0 9).add (nameR 1) alF 2).2.nodes)) alF = 5 := alB_5
 have hh6 : headW ((TreeS.new alF 0 9).add (nameR 1) alF 2).2.nodes (ownE alX (effT (BookS.take ⟨((TreeS.new alF 0 9).add (nameR 1) alF 2).2, (TabS.new alX.length 4)⟩ ⟨0, 2, nameR 1⟩).2) ((TreeS.new alF 0 9).add (nameR 1) alF 2).2.nodes) = nameR 1 := alB_6
 have hq1 : 0 < (ownE alX (effT (TabS.new alX.length 4)) (TreeS.new alF 0 9).nodes).length := alB_p
 have hq2 : 0 < (ownE alX (effT (BookS.take ⟨((TreeS.new alF 0 9).add (nameR 1) alF 2).2, (TabS.new alX.length 4)⟩ ⟨0, 2, nameR 1⟩).2) ((TreeS.new alF 0 9).add (nameR 1) alF 2).2.nodes).length := alB_q
 have hll2 : (BookS.take ⟨((TreeS.new alF 0 9).add (nameR 1) alF 2).2, (TabS.new alX.length 4)⟩ ⟨0, 1, nameR 1⟩).2.latest.length = alX.length := by rw [hh3]; rfl
 refine Z1 ?_
 refine Z3o ?_
 refine oi (os_call cb_62 rfl (fun w s => BNewS_calls (ao := ao1) (c := 1) (xs := alX) (n1 := 4) (n2 := 1) (n3 := 9) (n4 := 1) (n5 := 1) (n6 := 1) (n7 := 1) (n8 := 1) (n9 := 1) (n10 := 1) (n11 := 1)  s hgg (rds_row 1 rfl rfl))) ?_; rintro _ _ ⟨pb1, pt1, pw1, pv1, rfl, rfl⟩; rw [alB_0]
 refine Zh ?_
 refine Z14 ?_
 refine oq (op_lda (L := cfgC _) 4 ag_65 rfl rfl (cfgC_ta _) (by simp [cfgC_len])) ?_
 refine oi (os_call cb_63 rfl (fun w s => RRoot_calls (ao := ao1) (c := 1) (xs := alX) (n1 := 4) (n2 := 1) (n3 := 9) (n4 := 1) (n5 := 1) (n6 := 1) (n7 := 1) (n8 := 1) (n9 := 1) (n10 := 1) (n11 := 1)  s (rds_row 5 rfl rfl) (by decide) hkk)) ?_; rintro _ _ ⟨rfl, rfl⟩; rw [alB_0]
 refine Z20 ?_; intro bx2
 refine Z4a ?_
 refine Z14 ?_
 refine oi (os_call cb_17 rfl (fun w s => Name_calls (n := 1)  s )) ?_; rintro _ _ ⟨rfl, rfl⟩
 refine Z20 ?_; intro bx3
 refine Z4a ?_
 refine Z2 ?_
 refine cd_pull2 ?_
 refine cd_pull3 ?_
 refine Z5x ?_
 refine Z7 ?_
 refine cd_drawe (M := [_, _, _, _]) mx [1, 8, 15, 22, 28, 33] ?_
 refine Z2z ?_
 refine e_q 2 rfl (wn_none rfl) (op_lda (L := rootC _) 1 ag_24 rfl rfl (rootC_take' _) (by simp [rootC_len])) ?_
 refine Z58 ?_
 refine ei_i rfl rfl (wn_none rfl) (os_back (os_pull1 (os_pull2 (os_pull3 (os_call cb_38 rfl (fun w s => BHead_calls _ _ _ _ _ _ _ _ _ _ _ _ _ _ _ _ _ _ _ _  s (Nat.le_of_eq (ownE_len _ _ _)) hq1))))) (fun _ s => ((((((((s.pull 7).pull 7).pull 7).pull 7).pull 4).pull 5).pull 6).pull 7))) rfl ?_; rintro _ _ ⟨rfl, rfl⟩; rw [hh1]; refine ⟨[_, _, _, _], rfl, ?_⟩
 refine e_q 3 rfl (wn_none rfl) (op_eqroot _ _ rB_24 rfl rfl) ?_
 refine e_q 4 rfl (wn_none rfl) (op_move (v := .bool _) rfl) ?_
 refine et_split 17 rfl (fun hb1 => ?_) (fun hb1 => ?_)
 ·have hp1 := hb1
  (try simp only [bn] at hp1)
  refine e_q 5 rfl (wn_some rfl rfl rfl hb1 rfl) (op_move (v := .pointer _) rfl) ?_
  refine e_q 6 rfl (wn_some rfl rfl rfl hb1 rfl) (op_lda (L := rootC _) 0 ag_24 rfl rfl (rootC_take' _) (by simp [rootC_len])) ?_
  refine e_q 7 rfl (wn_some rfl rfl rfl hb1 rfl) (op_lda (L := rootC _) 1 ag_24 rfl rfl (rootC_take' _) (by simp [rootC_len])) ?_
  refine Zz ?_
  refine ei_i rfl rfl (wn_some rfl rfl rfl hb1 rfl) (os_pull1 (os_pull2 (os_pull3 (os_call cb_64 rfl (fun w s => BAdd_calls (slot := 2) _ _ _ _ _ _ _ _ _ _ _ _ _ _ _ _ _ _ _ _ _ _  s rfl hsk (rds_row 3 rfl rfl)))))) rfl ?_; rintro _ _ ⟨rfl, rfl⟩; rw [hh2]; refine ⟨[_, _, _, _], rfl, ?_⟩
  refine e_q 9 rfl (wn_some rfl rfl rfl hb1 rfl) (op_eq rfl rfl) ?_
  refine e_q 10 rfl (wn_none rfl) (op_pick_t (v := .bool _) rfl hb1 rfl) ?_
  refine e_q 11 rfl (wn_none rfl) (op_move (v := .bool _) rfl) ?_
  refine et_split 24 rfl (fun hb2 => ?_) (fun hb2 => ?_)
  ·have hp2 := hb2
   (try simp only [bn] at hp2)
   refine e_q 12 rfl (wn_some rfl rfl rfl hb2 rfl) (op_move (v := .pointer _) rfl) ?_
   refine e_q 13 rfl (wn_some rfl rfl rfl hb2 rfl) (op_lda (L := rootC _) 0 ag_24 rfl rfl (rootC_take' _) (by simp [rootC_len])) ?_
   refine e_q 14 rfl (wn_some rfl rfl rfl hb2 rfl) (op_build (L := voteC _) (vs := [(1, .int _ _), (2, .agg (rootC _).toArray)]) bB_84 rfl ⟨⟨rfl, by rw [voteC_len]; rfl⟩, ⟨by simp [Value.cells, rootC_len], by rw [voteC_len]; rfl⟩, trivial⟩ ((voteC_b1 _ _ _).trans ((voteC_b2 _ _ _).trans rfl))) ?_
   refine Z53 ?_
   refine ei_i rfl rfl (wn_some rfl rfl rfl hb2 rfl) (os_pull3 (os_pull3 (os_pull3 (os_pull3 (os_call cb_43 rfl (fun w s => BTake_calls (u := ⟨0, 1, nameR 1⟩) _ _ _ _ _ _ _ _ _ _ _ _ _ _ _ _ _ _ _ _  s rfl hsk (rds_row 3 rfl rfl))))))) rfl ?_; rintro _ _ ⟨rfl, rfl⟩; rw [hh3]; (try dsimp only); refine ⟨[_, _, _, _], rfl, ?_⟩
   refine e_q 16 rfl (wn_some rfl rfl rfl hb2 rfl) (op_eq rfl rfl) ?_
   refine e_q 17 rfl (wn_none rfl) (op_pick_t (v := .bool _) rfl hb2 rfl) ?_
   refine e_q 18 rfl (wn_none rfl) (op_move (v := .bool _) rfl) ?_
   refine et_split 31 rfl (fun hb3 => ?_) (fun hb3 => ?_)
   ·have hp3 := hb3
    (try simp only [bn] at hp3)
    refine e_q 19 rfl (wn_some rfl rfl rfl hb3 rfl) (op_move (v := .pointer _) rfl) ?_
    refine e_q 20 rfl (wn_some rfl rfl rfl hb3 rfl) (op_lda (L := rootC _) 0 ag_24 rfl rfl (rootC_take' _) (by simp [rootC_len])) ?_
    refine e_q 21 rfl (wn_some rfl rfl rfl hb3 rfl) (op_build (L := voteC _) (vs := [(1, .int _ _), (2, .agg (rootC _).toArray)]) bB_84 rfl ⟨⟨rfl, by rw [voteC_len]; rfl⟩, ⟨by simp [Value.cells, rootC_len], by rw [voteC_len]; rfl⟩, trivial⟩ ((voteC_b1 _ _ _).trans ((voteC_b2 _ _ _).trans rfl))) ?_
    refine et_1 (i := 22) (by kernel_rfl) ?_
    refine ei_i rfl rfl (wn_some rfl rfl rfl hb3 rfl) (os_pull3 (os_pull3 (os_pull3 (os_pull3 (os_call cb_43 rfl (fun w s => BTake_calls (u := ⟨0, 2, nameR 1⟩) _ _ _ _ _ _ _ _ _ _ _ _ _ _ _ _ _ _ _ _  s rfl hsk (rds_row 3 rfl rfl))))))) rfl ?_; rintro _ _ ⟨rfl, rfl⟩; rw [hh4]; refine ⟨[_, _, _, _], rfl, ?_⟩
    refine e_q 23 rfl (wn_some rfl rfl rfl hb3 rfl) (op_eq rfl rfl) ?_
    refine e_q 24 rfl (wn_none rfl) (op_pick_t (v := .bool _) rfl hb3 rfl) ?_
    refine e_q 25 rfl (wn_none rfl) (op_move (v := .bool _) rfl) ?_
    refine et_split 38 rfl (fun hb4 => ?_) (fun hb4 => ?_)
    ·have hp4 := hb4
     (try simp only [bn] at hp4)
     refine e_q 26 rfl (wn_some rfl rfl rfl hb4 rfl) (op_move (v := .pointer _) rfl) ?_
     refine e_q 27 rfl (wn_some rfl rfl rfl hb4 rfl) (op_lda (L := rootC _) 1 ag_24 rfl rfl (rootC_take' _) (by simp [rootC_len])) ?_
     refine et_1 (i := 28) (by kernel_rfl) ?_
     refine ei_i rfl rfl (wn_some rfl rfl rfl hb4 rfl) (os_back (os_pull2 (os_pull2 (os_pull2 (os_call cb_37 rfl (fun w s => BWeight_calls _ _ _ _ _ _ _ _ _ _ _ _ _ _ _ _ _ _ _ _ _  s ))))) (fun _ s => s)) rfl ?_; rintro _ _ ⟨rfl, rfl⟩; rw [hh5]; refine ⟨[_, _, _, _], rfl, ?_⟩
     refine e_q 29 rfl (wn_some rfl rfl rfl hb4 rfl) (op_eq rfl rfl) ?_
     refine e_q 30 rfl (wn_none rfl) (op_pick_t (v := .bool _) rfl hb4 rfl) ?_
     refine e_q 31 rfl (wn_none rfl) (op_move (v := .bool _) rfl) ?_
     refine et_split 44 rfl (fun hb5 => ?_) (fun hb5 => ?_)
     ·have hp5 := hb5
      (try simp only [bn] at hp5)
      refine e_q 32 rfl (wn_some rfl rfl rfl hb5 rfl) (op_move (v := .pointer _) rfl) ?_
      refine e_q 34 rfl (wn_some rfl rfl rfl hb5 rfl) (op_lda (L := rootC _) 0 ag_24 rfl rfl (rootC_take' _) (by simp [rootC_len])) ?_
      refine et_1 (i := 33) (by kernel_rfl) ?_
      refine ei_i rfl rfl (wn_some rfl rfl rfl hb5 rfl) (os_back (os_pull2 (os_pull2 (os_pull2 (os_call cb_38 rfl (fun w s => BHead_calls _ _ _ _ _ _ _ _ _ _ _ _ _ _ _ _ _ _ _ _  s (Nat.le_of_eq (ownE_len _ _ _)) hq2))))) (fun _ s => s)) rfl ?_; rintro _ _ ⟨rfl, rfl⟩; rw [hh6]; refine ⟨[_, _, _, _], rfl, ?_⟩
      refine e_q 35 rfl (wn_some rfl rfl rfl hb5 rfl) (op_eqroot _ _ rB_24 rfl rfl) ?_
      refine e_q 36 rfl (wn_none rfl) (op_pick_t (v := .bool _) rfl hb5 rfl) ?_
      refine e_q 37 rfl (wn_none rfl) (op_assign (v := .bool _) rfl) ?_
      refine Z1t ?_
      exact Z9x
     have hp5 := hb5
     (try simp only [bn] at hp5)
     exact absurd hb5 (by simp)
    have hp4 := hb4
    (try simp only [bn] at hp4)
    exact absurd hb4 (by simp)
   have hp3 := hb3
   (try simp only [bn] at hp3)
   exact absurd hb3 (by simp)
  have hp2 := hb2
  (try simp only [bn] at hp2)
  exact absurd hb2 (by simp)
 have hp1 := hb1
 (try simp only [bn] at hp1)
 exact absurd hb1 (by simp)
end Go.SL

set_option linter.unusedVariables false
set_option linter.unusedSimpArgs false
namespace Go.SL
open Go.Proofs

set_option maxRecDepth 100000 in
set_option maxHeartbeats 1000000 in
theorem VotesOnce_calls {w0 w : World} {l : List HProp} (ao : Option Addr) (c : Nat) (xs : List Val) (n1 n2 n3 n4 n5 n6 n7 n8 n9 n10 n11 : Int) (lo : Option Addr) (lc : Nat) (acts : List VAct) (hs : Sat w0 w (l)) (hr : Rds w0 l encVal ao xs) (hqv : ∀ y ∈ xs, I64 y.stake ∧ y.key.length ≤ maxLen) (hra : Rds w0 l encVAct lo acts) (hqa : ∀ a ∈ acts, I64 a.kind ∧ I64 a.root ∧ I64 a.parent ∧ I64 a.slot ∧ I64 a.who) :
  Calls Try.prog 9 #[.agg (cfgC ⟨⟨ao, xs.length, c⟩, n1, n2, n3, n4, n5, n6, n7, n8, n9, n10, n11⟩).toArray, .slice lo acts.length lc] w (Ret w0 fun v l' => v = .bool true ∧ l' = l) := by
 refine calls_enter Try.func9 rfl rfl rfl hs ?_
 refine Zm ?_; intro bx1
 refine Zd ?_
 refine Z1d ?_
 refine oi (os_call cb_33 rfl (fun w s => vAlive_calls  s )) ?_; rintro _ _ ⟨rfl, rfl⟩
 refine Z2y ?_
 refine Z2h ?_
 refine Z1 ?_
 refine Z3o ?_
 refine Zp ?_
 refine oi (os_call cb_34 rfl (fun w s => vbegun_calls _ _ _ _ _ _ _ _ _ _ _ _ _ _  _ _ acts _ s (hr.cons _) hqv (by decide))) ?_; rintro _ l2 (⟨hbad1, rfl, hl2⟩ | ⟨hgc1, hmo1, pb1, pt1, pw1, pv1, pm1, pr1, pq1, rfl, rfl⟩)
 ·rw [hl2]
  refine Z2v ?_
  refine Z4v ?_
  refine Z4v ?_
  refine Z4e ?_
  refine Zh ?_
  refine Zh ?_
  refine Zd ?_
  refine Z3d ?_
  refine Z26 ?_
  refine Z1 ?_
  refine Zx ?_
  exact px_ret1 rfl (v := .bool _) rfl (fun _ s => (s.del 0)) ⟨congrArg Value.bool (by first | rfl | simp), rfl⟩
 skip
 refine Z2v ?_
 refine Z4v ?_
 refine Z4v ?_
 refine Z4e ?_
 refine Zh ?_
 refine Zh ?_
 refine Zd ?_
 refine Z3d ?_
 refine Z44 ?_
 refine Zf ?_
 have hbd := goodC_bd hgc1
 (try dsimp only at hbd)
 have hxl := hbd.2.2.1.2
 have hk := hbd.2.2.2
 have hsk := goodC_stk hgc1
 have hO0 : OKB xs.length (newB (shaM ([116, 111, 108, 108, 101, 114] ++ bytesC ⟨⟨ao, xs.length, c⟩, n1, n2, n3, n4, n5, n6, n7, n8, n9, n10, n11⟩ xs)) n3 xs.length n1) := OKB.new (by omega) (by omega) hxl (by omega) (by omega)
 refine Z1 ?_
 refine Zp ?_
 refine oq (op_len_slice Try.underlying66 rfl) ?_
 refine Z1f ?_
 refine cd_pull6 ?_
 refine cd_pull6 ?_
 refine cd_pull6 ?_
 refine cd_pull6 ?_
 refine cd_pull6 ?_
 refine cd_pull6 ?_
 refine cd_pull6 ?_
 refine cd_loop2 (α := Nat × Nat × Nat × Nat) [(4, 4), (9, 13), (27, 67)] (fun x => [(27, .int .i64 (x.1 : Int))]) (fun x => Blk pb1 (.cells #[.slice ao xs.length c, .int .i64 n1, .int .i64 n2, .int .i64 n3, .int .i64 n4, .int .i64 n5, .int .i64 n6, .int .i64 n7, .int .i64 n8, .int .i64 n9, .int .i64 n10, .int .i64 n11, .pointer (some ⟨x.2.1, 0, none⟩), .pointer (some ⟨x.2.2.1, 0, none⟩), .pointer (some ⟨pv1, 0, none⟩)] 131 (0, 0)) :: TreeObj x.2.1 (runB (newB (shaM ([116, 111, 108, 108, 101, 114] ++ bytesC ⟨⟨ao, xs.length, c⟩, n1, n2, n3, n4, n5, n6, n7, n8, n9, n10, n11⟩ xs)) n3 xs.length n1) (shaM ([116, 111, 108, 108, 101, 114] ++ bytesC ⟨⟨ao, xs.length, c⟩, n1, n2, n3, n4, n5, n6, n7, n8, n9, n10, n11⟩ xs)) (acts.take x.1)).t :: WObj x.2.2.1 x.2.1 (runB (newB (shaM ([116, 111, 108, 108, 101, 114] ++ bytesC ⟨⟨ao, xs.length, c⟩, n1, n2, n3, n4, n5, n6, n7, n8, n9, n10, n11⟩ xs)) n3 xs.length n1) (shaM ([116, 111, 108, 108, 101, 114] ++ bytesC ⟨⟨ao, xs.length, c⟩, n1, n2, n3, n4, n5, n6, n7, n8, n9, n10, n11⟩ xs)) (acts.take x.1)).t.nodes (ownE xs (effT (runB (newB (shaM ([116, 111, 108, 108, 101, 114] ++ bytesC ⟨⟨ao, xs.length, c⟩, n1, n2, n3, n4, n5, n6, n7, n8, n9, n10, n11⟩ xs)) n3 xs.length n1) (shaM ([116, 111, 108, 108, 101, 114] ++ bytesC ⟨⟨ao, xs.length, c⟩, n1, n2, n3, n4, n5, n6, n7, n8, n9, n10, n11⟩ xs)) (acts.take x.1)).tb) (runB (newB (shaM ([116, 111, 108, 108, 101, 114] ++ bytesC ⟨⟨ao, xs.length, c⟩, n1, n2, n3, n4, n5, n6, n7, n8, n9, n10, n11⟩ xs)) n3 xs.length n1) (shaM ([116, 111, 108, 108, 101, 114] ++ bytesC ⟨⟨ao, xs.length, c⟩, n1, n2, n3, n4, n5, n6, n7, n8, n9, n10, n11⟩ xs)) (acts.take x.1)).t.nodes) :: TabObj pv1 (runB (newB (shaM ([116, 111, 108, 108, 101, 114] ++ bytesC ⟨⟨ao, xs.length, c⟩, n1, n2, n3, n4, n5, n6, n7, n8, n9, n10, n11⟩ xs)) n3 xs.length n1) (shaM ([116, 111, 108, 108, 101, 114] ++ bytesC ⟨⟨ao, xs.length, c⟩, n1, n2, n3, n4, n5, n6, n7, n8, n9, n10, n11⟩ xs)) (acts.take x.1)).tb :: Blk pm1 (.cells #[.slice ao xs.length c, .int .i64 n1, .int .i64 n2, .int .i64 n3, .int .i64 n4, .int .i64 n5, .int .i64 n6, .int .i64 n7, .int .i64 n8, .int .i64 n9, .int .i64 n10, .int .i64 n11, .pointer (some ⟨x.2.2.2, 0, none⟩), .pointer (some ⟨pq1, 0, none⟩)] 127 (0, 0)) :: RTreeObj x.2.2.2 (runB (newB (shaM ([116, 111, 108, 108, 101, 114] ++ bytesC ⟨⟨ao, xs.length, c⟩, n1, n2, n3, n4, n5, n6, n7, n8, n9, n10, n11⟩ xs)) n3 xs.length n1) (shaM ([116, 111, 108, 108, 101, 114] ++ bytesC ⟨⟨ao, xs.length, c⟩, n1, n2, n3, n4, n5, n6, n7, n8, n9, n10, n11⟩ xs)) (acts.take x.1)).t :: RTabObj pq1 (runB (newB (shaM ([116, 111, 108, 108, 101, 114] ++ bytesC ⟨⟨ao, xs.length, c⟩, n1, n2, n3, n4, n5, n6, n7, n8, n9, n10, n11⟩ xs)) n3 xs.length n1) (shaM ([116, 111, 108, 108, 101, 114] ++ bytesC ⟨⟨ao, xs.length, c⟩, n1, n2, n3, n4, n5, n6, n7, n8, n9, n10, n11⟩ xs)) (acts.take x.1)).tb :: _) (fun x => x.1 ≤ acts.length) (fun x => acts.length - x.1) (0, pt1, pw1, pr1) (Nat.zero_le _) ⟨rfl, trivial⟩ (fun _ s => by (try dsimp only); rw [List.take_zero]; exact s) ?_
 rintro ⟨i, qt, qw, qr⟩ hi f; (try dsimp only at hi ⊢)
 have hO := hO0.run (g := (shaM ([116, 111, 108, 108, 101, 114] ++ bytesC ⟨⟨ao, xs.length, c⟩, n1, n2, n3, n4, n5, n6, n7, n8, n9, n10, n11⟩ xs))) (acts.take i)
 have hw := hO.wf
 have htw := hO.tw
 have hln := hO.ln
 have hN1 := hw.le
 have hN2 := hw.m2
 have hN0 := hw.ne
 have hrl := roots_len (runB (newB (shaM ([116, 111, 108, 108, 101, 114] ++ bytesC ⟨⟨ao, xs.length, c⟩, n1, n2, n3, n4, n5, n6, n7, n8, n9, n10, n11⟩ xs)) n3 xs.length n1) (shaM ([116, 111, 108, 108, 101, 114] ++ bytesC ⟨⟨ao, xs.length, c⟩, n1, n2, n3, n4, n5, n6, n7, n8, n9, n10, n11⟩ xs)) (acts.take i)).t
 refine Zy ?_
 refine cd_cond rfl (fun hb1 => ?_) (fun hb1 => ?_)
 have hp1 := hb1
 (try simp only [bn] at hp1)
 have hi1 : i < acts.length := by omega
 have hO2 := hO0.run (g := (shaM ([116, 111, 108, 108, 101, 114] ++ bytesC ⟨⟨ao, xs.length, c⟩, n1, n2, n3, n4, n5, n6, n7, n8, n9, n10, n11⟩ xs))) (acts.take (i + 1))
 have hw2 := hO2.wf
 have htw2 := hO2.tw
 have hln2 := hO2.ln
 have hN12 := hw2.le
 have hN22 := hw2.m2
 have hN02 := hw2.ne
 have hrl2 := roots_len (runB (newB (shaM ([116, 111, 108, 108, 101, 114] ++ bytesC ⟨⟨ao, xs.length, c⟩, n1, n2, n3, n4, n5, n6, n7, n8, n9, n10, n11⟩ xs)) n3 xs.length n1) (shaM ([116, 111, 108, 108, 101, 114] ++ bytesC ⟨⟨ao, xs.length, c⟩, n1, n2, n3, n4, n5, n6, n7, n8, n9, n10, n11⟩ xs)) (acts.take (i + 1))).t
 refine Z2s ?_
 refine oq (op_index i sB_66 rfl rfl rfl ((((((((hra.cons _).cons _).cons _).cons _).cons _).cons _).cons _).cons _) rfl (by omega)) ?_
 refine oq (op_ldaw (L := vActC _) ag_72 ((((((((hra.cons _).cons _).cons _).cons _).cons _).cons _).cons _).cons _) rfl (by omega) rfl (vActC_ta _)) ?_
 refine oi (os_alloc (cs := (vActC VAct.zero).toArray) zB_72 (by kernel_rfl)) ?_; rintro _ _ ⟨bx2, rfl, rfl⟩
 refine oN (os_storew (vActC _) ag_72 rfl rfl (vActC_len _) (vActC_one _) (by simp [vActC_len]) (Free.zero _)) ?_; rintro _ _ ⟨rfl, rfl⟩
 refine Z2 ?_
 refine Z32 ?_
 refine oq (op_lda (L := vActC _) 0 ag_72 rfl rfl (vActC_ta _) (by simp [vActC_len])) ?_
 refine ol_pull7 ?_
 refine ol_pull7 ?_
 refine ol_pull7 ?_
 refine ol_pull7 ?_
 refine ol_pull7 ?_
 refine ol_pull7 ?_
 refine ol_pull7 ?_
 refine oi (os_call cb_35 rfl (fun w s => vdo_calls _ _ _ _ _ _ _ _ _ _ _ _ _ _ _ _ _ _ _ _ _ _ _ _  s hln hsk hxl hk ((hr.cons _).cons _) (hqa acts[i] (List.getElem_mem _)).2.2.2.1.2)) ?_; rintro _ _ ⟨qt2, qw2, qr2, rfl, rfl⟩; rw [← show (runB (newB (shaM ([116, 111, 108, 108, 101, 114] ++ bytesC ⟨⟨ao, xs.length, c⟩, n1, n2, n3, n4, n5, n6, n7, n8, n9, n10, n11⟩ xs)) n3 xs.length n1) (shaM ([116, 111, 108, 108, 101, 114] ++ bytesC ⟨⟨ao, xs.length, c⟩, n1, n2, n3, n4, n5, n6, n7, n8, n9, n10, n11⟩ xs)) (acts.take (i + 1))) = stepB (shaM ([116, 111, 108, 108, 101, 114] ++ bytesC ⟨⟨ao, xs.length, c⟩, n1, n2, n3, n4, n5, n6, n7, n8, n9, n10, n11⟩ xs)) ⟨(runB (newB (shaM ([116, 111, 108, 108, 101, 114] ++ bytesC ⟨⟨ao, xs.length, c⟩, n1, n2, n3, n4, n5, n6, n7, n8, n9, n10, n11⟩ xs)) n3 xs.length n1) (shaM ([116, 111, 108, 108, 101, 114] ++ bytesC ⟨⟨ao, xs.length, c⟩, n1, n2, n3, n4, n5, n6, n7, n8, n9, n10, n11⟩ xs)) (acts.take i)).t, (runB (newB (shaM ([116, 111, 108, 108, 101, 114] ++ bytesC ⟨⟨ao, xs.length, c⟩, n1, n2, n3, n4, n5, n6, n7, n8, n9, n10, n11⟩ xs)) n3 xs.length n1) (shaM ([116, 111, 108, 108, 101, 114] ++ bytesC ⟨⟨ao, xs.length, c⟩, n1, n2, n3, n4, n5, n6, n7, n8, n9, n10, n11⟩ xs)) (acts.take i)).tb⟩ acts[i] from runB_succ hi1]
 refine Z14 ?_
 refine Zb ?_
 refine Z1d ?_
 refine Z36 ?_
 refine oq (op_ld 8 sc_63 rfl rfl (show (cfgC _).toArray[0]? = some (.slice ao xs.length c) from cfgC_a0 _)) ?_
 refine Z3m ?_
 refine Z1f ?_
 refine cd_loop2 (α := Nat) [(10, 12), (38, 51)] (fun x => [(10, .int .i64 (cntE xs (fun q : Nat => (runB (newB (shaM ([116, 111, 108, 108, 101, 114] ++ bytesC ⟨⟨ao, xs.length, c⟩, n1, n2, n3, n4, n5, n6, n7, n8, n9, n10, n11⟩ xs)) n3 xs.length n1) (shaM ([116, 111, 108, 108, 101, 114] ++ bytesC ⟨⟨ao, xs.length, c⟩, n1, n2, n3, n4, n5, n6, n7, n8, n9, n10, n11⟩ xs)) (acts.take (i + 1))).tb.counts (q : Int)) x)), (38, .int .i64 (x : Int))]) (fun _ => _) (fun x => x ≤ xs.length) (fun x => xs.length - x) 0 (Nat.zero_le _) ⟨rfl, rfl, trivial⟩ (fun _ s => s) ?_
 rintro j hj f; (try dsimp only at hj ⊢)
 refine Zy ?_
 refine cd_cond rfl (fun hb2 => ?_) (fun hb2 => ?_)
 ·have hp2 := hb2
  (try simp only [bn] at hp2)
  have hj1 : j < xs.length := by omega
  have hc1 := cntE_rg hsk (fun q : Nat => (runB (newB (shaM ([116, 111, 108, 108, 101, 114] ++ bytesC ⟨⟨ao, xs.length, c⟩, n1, n2, n3, n4, n5, n6, n7, n8, n9, n10, n11⟩ xs)) n3 xs.length n1) (shaM ([116, 111, 108, 108, 101, 114] ++ bytesC ⟨⟨ao, xs.length, c⟩, n1, n2, n3, n4, n5, n6, n7, n8, n9, n10, n11⟩ xs)) (acts.take (i + 1))).tb.counts (q : Int)) (k := j) (by omega)
  have hc2 := cntE_rg hsk (fun q : Nat => (runB (newB (shaM ([116, 111, 108, 108, 101, 114] ++ bytesC ⟨⟨ao, xs.length, c⟩, n1, n2, n3, n4, n5, n6, n7, n8, n9, n10, n11⟩ xs)) n3 xs.length n1) (shaM ([116, 111, 108, 108, 101, 114] ++ bytesC ⟨⟨ao, xs.length, c⟩, n1, n2, n3, n4, n5, n6, n7, n8, n9, n10, n11⟩ xs)) (acts.take (i + 1))).tb.counts (q : Int)) (k := j + 1) (by omega)
  rw [cntE_succ] at hc2
  have hsg := stk_get hj1
  refine Z2i ?_
  refine oq (op_index j sB_63 rfl rfl rfl (((((((((hr.cons _).cons _).cons _).cons _).cons _).cons _).cons _).cons _).cons _) rfl (by omega)) ?_
  refine oq (op_ldaw (L := valC _) ag_78 (((((((((hr.cons _).cons _).cons _).cons _).cons _).cons _).cons _).cons _).cons _) rfl (by omega) rfl (valC_ta _)) ?_
  refine Z6d ?_; intro bx3
  refine Zq ?_
  refine Z6e ?_
  refine Z2 ?_
  refine Zc ?_
  refine Za ?_
  refine oi (os_call cb_39 rfl (fun w s => BTable_calls _ _ _ _ _ _ _ _ _ _ _ _ _ _ _ _ _ _  s )) ?_; rintro _ _ ⟨rfl, rfl⟩
  refine Z4 ?_
  refine ol_pull4 ?_
  refine oi (os_call cb_40 rfl (fun w s => Counts_calls _ _ _  s )) ?_; rintro _ _ ⟨rfl, rfl⟩
  refine Z2 ?_
  refine cd_cond rfl (fun hb3 => ?_) (fun hb3 => ?_)
  ·have hp3 := hb3
   (try simp only [bn] at hp3)
   have hpj : (fun q : Nat => (runB (newB (shaM ([116, 111, 108, 108, 101, 114] ++ bytesC ⟨⟨ao, xs.length, c⟩, n1, n2, n3, n4, n5, n6, n7, n8, n9, n10, n11⟩ xs)) n3 xs.length n1) (shaM ([116, 111, 108, 108, 101, 114] ++ bytesC ⟨⟨ao, xs.length, c⟩, n1, n2, n3, n4, n5, n6, n7, n8, n9, n10, n11⟩ xs)) (acts.take (i + 1))).tb.counts (q : Int)) j = true := hb3
   rw [if_pos hpj] at hc2
   refine Z16 ?_
   refine Z4 ?_
   refine oq (op_field fld_78_0 rfl) ?_
   refine oq (op_ld 2 sc_3 rfl rfl (valC_a0 _)) ?_
   refine Z8r ?_
   refine Z4l ?_
   refine Z79 ?_
   refine Z79 ?_
   refine px_pull9 ?_
   refine px_pull5 ?_
   refine Z79 ?_
   refine px_pull8 ?_
   refine px_loop2 (j + 1) (by omega) (by (try dsimp only); omega) ⟨congrArg (Value.int .i64) (by rw [cntE_succ, if_pos hpj, stk_get hj1]), congrArg (Value.int .i64) (by simp), trivial⟩ ?_ (fun _ s => (s.del 9))
   exact Z0
  have hp3 := hb3
  (try simp only [bn] at hp3)
  have hpj : ¬ (fun q : Nat => (runB (newB (shaM ([116, 111, 108, 108, 101, 114] ++ bytesC ⟨⟨ao, xs.length, c⟩, n1, n2, n3, n4, n5, n6, n7, n8, n9, n10, n11⟩ xs)) n3 xs.length n1) (shaM ([116, 111, 108, 108, 101, 114] ++ bytesC ⟨⟨ao, xs.length, c⟩, n1, n2, n3, n4, n5, n6, n7, n8, n9, n10, n11⟩ xs)) (acts.take (i + 1))).tb.counts (q : Int)) j = true := by show ¬ (runB (newB (shaM ([116, 111, 108, 108, 101, 114] ++ bytesC ⟨⟨ao, xs.length, c⟩, n1, n2, n3, n4, n5, n6, n7, n8, n9, n10, n11⟩ xs)) n3 xs.length n1) (shaM ([116, 111, 108, 108, 101, 114] ++ bytesC ⟨⟨ao, xs.length, c⟩, n1, n2, n3, n4, n5, n6, n7, n8, n9, n10, n11⟩ xs)) (acts.take (i + 1))).tb.counts (j : Int) = true; rw [hb3]; simp
  refine Z3v ?_
  refine Z79 ?_
  refine Z79 ?_
  refine px_pull9 ?_
  refine px_pull5 ?_
  refine Z79 ?_
  refine px_pull8 ?_
  refine px_loop2 (j + 1) (by omega) (by (try dsimp only); omega) ⟨congrArg (Value.int .i64) (by rw [cntE_succ, if_neg hpj]; omega), congrArg (Value.int .i64) (by simp), trivial⟩ ?_ (fun _ s => (s.del 9))
  exact Z0
 have hp2 := hb2
 (try simp only [bn] at hp2)
 have hje : j = xs.length := by omega
 rw [hje]
 refine Z1a ?_
 refine Zc ?_
 refine oi (os_call cb_36 rfl (fun w s => BTree_calls _ _ _ _ _ _ _ _ _ _ _ _ _ _ _ _ _ _  s )) ?_; rintro _ _ ⟨rfl, rfl⟩
 refine Za ?_
 refine oi (os_call cb_20 rfl (fun w s => Roots_calls _ _  s )) ?_; rintro _ _ ⟨ao6, ac6, rfl, rfl⟩
 refine Zv ?_
 refine Z2 ?_
 refine Z1 ?_
 refine Zp ?_
 refine oq (op_len_slice Try.underlying37 rfl) ?_
 refine Z2w ?_
 refine Z6 ?_
 refine ol_split 58 rfl (fun hb4 => ?_) (fun hb4 => ?_)
 ·have hp4 := hb4
  (try simp only [bn] at hp4)
  exact absurd (of_decide_eq_true hb4) (by omega)
 have hp4 := hb4
 (try simp only [bn] at hp4)
 refine ol_q (wn_some rfl rfl rfl hb4 rfl) (op_move (v := .pointer _) rfl) rfl ?_
 refine ol_q (wn_some rfl rfl rfl hb4 rfl) (op_move (v := .slice _ _ _) rfl) rfl ?_
 refine ol_q (wn_some rfl rfl rfl hb4 rfl) (op_index 0 sB_37 rfl rfl rfl (rds_row 0 rfl rfl) rfl (by omega)) rfl ?_
 refine ol_q (wn_some rfl rfl rfl hb4 rfl) (op_ldaw (L := rootC _) ag_24 (rds_row 0 rfl rfl) rfl (by omega) rfl (rootC_ta _)) rfl ?_
 refine Zr ?_
 refine ol_pull2 ?_
 refine Zr ?_
 refine ol_i (wn_some rfl rfl rfl hb4 rfl) (os_call cb_37 rfl (fun w s => BWeight_calls _ _ _ _ _ _ _ _ _ _ _ _ _ _ _ _ _ _ _ _ _  s )) rfl ?_; rintro _ _ ⟨rfl, rfl⟩; rw [roots_at (by omega), ofF_rt hw2 hN02 (by rw [ownE_len]; exact hN02), first_weighs hw2]
 refine ol_q (wn_some rfl rfl rfl hb4 rfl) (op_move (v := .int _ _) rfl) rfl ?_
 refine ol_q (wn_some rfl rfl rfl hb4 rfl) (op_gt rfl rfl) rfl ?_
 refine oq (op_pick_f (v := .bool _) rfl hb4 rfl) ?_
 refine Z2 ?_
 refine cd_cond rfl (fun hb5 => ?_) (fun hb5 => ?_)
 ·have hp5 := hb5
  (try simp only [bn] at hp5)
  exact absurd (of_decide_eq_true hb5) (by have := cntE_le hsk (p := (inE (runB (newB (shaM ([116, 111, 108, 108, 101, 114] ++ bytesC ⟨⟨ao, xs.length, c⟩, n1, n2, n3, n4, n5, n6, n7, n8, n9, n10, n11⟩ xs)) n3 xs.length n1) (shaM ([116, 111, 108, 108, 101, 114] ++ bytesC ⟨⟨ao, xs.length, c⟩, n1, n2, n3, n4, n5, n6, n7, n8, n9, n10, n11⟩ xs)) (acts.take (i + 1))).t.nodes (effT (runB (newB (shaM ([116, 111, 108, 108, 101, 114] ++ bytesC ⟨⟨ao, xs.length, c⟩, n1, n2, n3, n4, n5, n6, n7, n8, n9, n10, n11⟩ xs)) n3 xs.length n1) (shaM ([116, 111, 108, 108, 101, 114] ++ bytesC ⟨⟨ao, xs.length, c⟩, n1, n2, n3, n4, n5, n6, n7, n8, n9, n10, n11⟩ xs)) (acts.take (i + 1))).tb))) (q := (fun q : Nat => (runB (newB (shaM ([116, 111, 108, 108, 101, 114] ++ bytesC ⟨⟨ao, xs.length, c⟩, n1, n2, n3, n4, n5, n6, n7, n8, n9, n10, n11⟩ xs)) n3 xs.length n1) (shaM ([116, 111, 108, 108, 101, 114] ++ bytesC ⟨⟨ao, xs.length, c⟩, n1, n2, n3, n4, n5, n6, n7, n8, n9, n10, n11⟩ xs)) (acts.take (i + 1))).tb.counts (q : Int))) (fun q hq => inE_counts hq) xs.length; omega)
 have hp5 := hb5
 (try simp only [bn] at hp5)
 refine Z3v ?_
 refine px_loop2 (i + 1, qt2, qw2, qr2) (by dsimp only; omega) (by (try dsimp only); omega) ⟨congrArg (Value.int .i64) (by simp), trivial⟩ ?_ (fun _ s => ((s.del 8).del 3))
 exact Z0
 have hp1 := hb1
 (try simp only [bn] at hp1)
 refine Z27 ?_
 refine Zo ?_
 exact Z9x

end Go.SL


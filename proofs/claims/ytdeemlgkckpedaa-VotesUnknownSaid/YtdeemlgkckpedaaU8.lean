import Derived.Test.YtdeemlgkckpedaaU7
set_option linter.unusedVariables false
set_option linter.unusedSimpArgs false
namespace Go.SL
open Go.Proofs

theorem opens_Val {H : Type} {enc : TypeId × Value → H} {W : World} : Opens enc Try.prog W 78 (fun cs => ∃ a : Val, cs = encVal.cells a ∧ (I64 a.stake ∧ a.key.length ≤ maxLen)) := fun fuel cs x h => by
 obtain ⟨hl, hf⟩ := opens_field Try.underlying78 h
 have hc : Try.prog.cellsOf 78 = 2 := by kernel_rfl
 rw [hc] at hl
 obtain ⟨n0, h0, w0⟩ := hf 0 0 3 1 _ rfl (by kernel_rfl) (opens_int Try.underlying3)
 obtain ⟨n1, h1, w1⟩ := hf 1 1 9 1 _ rfl (by kernel_rfl) (opens_string Try.underlying9)
 refine ⟨⟨n0, n1⟩, ?_, wf_i64 w0, w1⟩
 have e0 : cs.drop 0 = (cs.drop 0).take 1 ++ cs.drop 1 := seg cs 0 1
 have e1 : cs.drop 1 = (cs.drop 1).take 1 ++ cs.drop 2 := seg cs 1 1
 have eN : cs.drop 2 = [] := List.drop_eq_nil_of_le (by omega)
 have e : cs.drop 0 = [.int .i64 n0] ++ ([.string (B n1)] ++ ([])) := by rw [e0, h0, e1, h1, eN]
 rw [List.drop_zero] at e
 rw [e]
 show _ = valC _
 unfold valC
 simp

theorem opens_Cfg {H : Type} {enc : TypeId × Value → H} {W : World} : Opens enc Try.prog W 65 (fun cs => ∃ a : Cfg, cs = encCfg.cells a ∧ ((∃ ys : List Val, a.vs.n = ys.length ∧ a.vs.n ≤ a.vs.c ∧ a.vs.c ≤ maxLen ∧ Shows W encVal a.vs.a ys ∧ ∀ y ∈ ys, I64 y.stake ∧ y.key.length ≤ maxLen) ∧ I64 a.epoch ∧ I64 a.committee ∧ I64 a.nodes ∧ I64 a.orphans ∧ I64 a.early ∧ I64 a.quota ∧ I64 a.peers ∧ I64 a.bytes ∧ I64 a.window ∧ I64 a.ban ∧ I64 a.decay)) := fun fuel cs x h => by
 obtain ⟨hl, hf⟩ := opens_field Try.underlying65 h
 have hc : Try.prog.cellsOf 65 = 12 := by kernel_rfl
 rw [hc] at hl
 obtain ⟨ao0, c0, ys0, h0, hl0, hm0, hs0, hq0⟩ := hf 0 0 63 1 _ rfl (by kernel_rfl) (opens_slice encVal Try.underlying63 (by kernel_rfl) opens_Val)
 obtain ⟨n1, h1, w1⟩ := hf 1 1 3 1 _ rfl (by kernel_rfl) (opens_int Try.underlying3)
 obtain ⟨n2, h2, w2⟩ := hf 2 2 3 1 _ rfl (by kernel_rfl) (opens_int Try.underlying3)
 obtain ⟨n3, h3, w3⟩ := hf 3 3 3 1 _ rfl (by kernel_rfl) (opens_int Try.underlying3)
 obtain ⟨n4, h4, w4⟩ := hf 4 4 3 1 _ rfl (by kernel_rfl) (opens_int Try.underlying3)
 obtain ⟨n5, h5, w5⟩ := hf 5 5 3 1 _ rfl (by kernel_rfl) (opens_int Try.underlying3)
 obtain ⟨n6, h6, w6⟩ := hf 6 6 3 1 _ rfl (by kernel_rfl) (opens_int Try.underlying3)
 obtain ⟨n7, h7, w7⟩ := hf 7 7 3 1 _ rfl (by kernel_rfl) (opens_int Try.underlying3)
 obtain ⟨n8, h8, w8⟩ := hf 8 8 3 1 _ rfl (by kernel_rfl) (opens_int Try.underlying3)
 obtain ⟨n9, h9, w9⟩ := hf 9 9 3 1 _ rfl (by kernel_rfl) (opens_int Try.underlying3)
 obtain ⟨n10, h10, w10⟩ := hf 10 10 3 1 _ rfl (by kernel_rfl) (opens_int Try.underlying3)
 obtain ⟨n11, h11, w11⟩ := hf 11 11 3 1 _ rfl (by kernel_rfl) (opens_int Try.underlying3)
 refine ⟨⟨⟨ao0, ys0.length, c0⟩, n1, n2, n3, n4, n5, n6, n7, n8, n9, n10, n11⟩, ?_, ⟨ys0, rfl, hl0, hm0, hs0, hq0⟩, wf_i64 w1, wf_i64 w2, wf_i64 w3, wf_i64 w4, wf_i64 w5, wf_i64 w6, wf_i64 w7, wf_i64 w8, wf_i64 w9, wf_i64 w10, wf_i64 w11⟩
 have e0 : cs.drop 0 = (cs.drop 0).take 1 ++ cs.drop 1 := seg cs 0 1
 have e1 : cs.drop 1 = (cs.drop 1).take 1 ++ cs.drop 2 := seg cs 1 1
 have e2 : cs.drop 2 = (cs.drop 2).take 1 ++ cs.drop 3 := seg cs 2 1
 have e3 : cs.drop 3 = (cs.drop 3).take 1 ++ cs.drop 4 := seg cs 3 1
 have e4 : cs.drop 4 = (cs.drop 4).take 1 ++ cs.drop 5 := seg cs 4 1
 have e5 : cs.drop 5 = (cs.drop 5).take 1 ++ cs.drop 6 := seg cs 5 1
 have e6 : cs.drop 6 = (cs.drop 6).take 1 ++ cs.drop 7 := seg cs 6 1
 have e7 : cs.drop 7 = (cs.drop 7).take 1 ++ cs.drop 8 := seg cs 7 1
 have e8 : cs.drop 8 = (cs.drop 8).take 1 ++ cs.drop 9 := seg cs 8 1
 have e9 : cs.drop 9 = (cs.drop 9).take 1 ++ cs.drop 10 := seg cs 9 1
 have e10 : cs.drop 10 = (cs.drop 10).take 1 ++ cs.drop 11 := seg cs 10 1
 have e11 : cs.drop 11 = (cs.drop 11).take 1 ++ cs.drop 12 := seg cs 11 1
 have eN : cs.drop 12 = [] := List.drop_eq_nil_of_le (by omega)
 have e : cs.drop 0 = [.slice ao0 ys0.length c0] ++ ([.int .i64 n1] ++ ([.int .i64 n2] ++ ([.int .i64 n3] ++ ([.int .i64 n4] ++ ([.int .i64 n5] ++ ([.int .i64 n6] ++ ([.int .i64 n7] ++ ([.int .i64 n8] ++ ([.int .i64 n9] ++ ([.int .i64 n10] ++ ([.int .i64 n11] ++ ([])))))))))))) := by rw [e0, h0, e1, h1, e2, h2, e3, h3, e4, h4, e5, h5, e6, h6, e7, h7, e8, h8, e9, h9, e10, h10, e11, h11, eN]
 rw [List.drop_zero] at e
 rw [e]
 show _ = cfgC _
 unfold cfgC
 simp

theorem opens_VAct {H : Type} {enc : TypeId × Value → H} {W : World} : Opens enc Try.prog W 72 (fun cs => ∃ a : VAct, cs = encVAct.cells a ∧ (I64 a.kind ∧ I64 a.root ∧ I64 a.parent ∧ I64 a.slot ∧ I64 a.who)) := fun fuel cs x h => by
 obtain ⟨hl, hf⟩ := opens_field Try.underlying72 h
 have hc : Try.prog.cellsOf 72 = 5 := by kernel_rfl
 rw [hc] at hl
 obtain ⟨n0, h0, w0⟩ := hf 0 0 3 1 _ rfl (by kernel_rfl) (opens_int Try.underlying3)
 obtain ⟨n1, h1, w1⟩ := hf 1 1 3 1 _ rfl (by kernel_rfl) (opens_int Try.underlying3)
 obtain ⟨n2, h2, w2⟩ := hf 2 2 3 1 _ rfl (by kernel_rfl) (opens_int Try.underlying3)
 obtain ⟨n3, h3, w3⟩ := hf 3 3 3 1 _ rfl (by kernel_rfl) (opens_int Try.underlying3)
 obtain ⟨n4, h4, w4⟩ := hf 4 4 3 1 _ rfl (by kernel_rfl) (opens_int Try.underlying3)
 refine ⟨⟨n0, n1, n2, n3, n4⟩, ?_, wf_i64 w0, wf_i64 w1, wf_i64 w2, wf_i64 w3, wf_i64 w4⟩
 have e0 : cs.drop 0 = (cs.drop 0).take 1 ++ cs.drop 1 := seg cs 0 1
 have e1 : cs.drop 1 = (cs.drop 1).take 1 ++ cs.drop 2 := seg cs 1 1
 have e2 : cs.drop 2 = (cs.drop 2).take 1 ++ cs.drop 3 := seg cs 2 1
 have e3 : cs.drop 3 = (cs.drop 3).take 1 ++ cs.drop 4 := seg cs 3 1
 have e4 : cs.drop 4 = (cs.drop 4).take 1 ++ cs.drop 5 := seg cs 4 1
 have eN : cs.drop 5 = [] := List.drop_eq_nil_of_le (by omega)
 have e : cs.drop 0 = [.int .i64 n0] ++ ([.int .i64 n1] ++ ([.int .i64 n2] ++ ([.int .i64 n3] ++ ([.int .i64 n4] ++ ([]))))) := by rw [e0, h0, e1, h1, e2, h2, e3, h3, e4, h4, eN]
 rw [List.drop_zero] at e
 rw [e]
 show _ = vActC _
 unfold vActC
 simp

set_option maxRecDepth 100000 in
set_option maxHeartbeats 1000000 in
theorem vdo_calls {w0 w : World} {l : List HProp} (pb pt pw pv pm pr pq : Nat) (ao : Option Addr) (c : Nat) (xs : List Val) (n1 n2 n3 n4 n5 n6 n7 n8 n9 n10 n11 : Int) (gg : Root) (t : TreeS) (tb : TabS) (a : VAct) (hs : Sat w0 w ((Blk pb (.cells #[.slice ao xs.length c, .int .i64 n1, .int .i64 n2, .int .i64 n3, .int .i64 n4, .int .i64 n5, .int .i64 n6, .int .i64 n7, .int .i64 n8, .int .i64 n9, .int .i64 n10, .int .i64 n11, .pointer (some ⟨pt, 0, none⟩), .pointer (some ⟨pw, 0, none⟩), .pointer (some ⟨pv, 0, none⟩)] 131 (0, 0))) :: (TreeObj pt t) :: (WObj pw pt t.nodes (ownE xs (effT tb) t.nodes)) :: (TabObj pv tb) :: (Blk pm (.cells #[.slice ao xs.length c, .int .i64 n1, .int .i64 n2, .int .i64 n3, .int .i64 n4, .int .i64 n5, .int .i64 n6, .int .i64 n7, .int .i64 n8, .int .i64 n9, .int .i64 n10, .int .i64 n11, .pointer (some ⟨pr, 0, none⟩), .pointer (some ⟨pq, 0, none⟩)] 127 (0, 0))) :: (RTreeObj pr t) :: (RTabObj pq tb) :: l)) (hn : tb.latest.length = xs.length) (hsk : StkOK xs) (hxl : xs.length ≤ 64) (hk : ∀ y ∈ xs, y.key.length ≤ 32) (hr : Rds w0 l encVal ao xs) (hs0 : a.slot ≤ 9223372036854775807) (hG : (shaM ([116, 111, 108, 108, 101, 114] ++ bytesC ⟨⟨ao, xs.length, c⟩, n1, n2, n3, n4, n5, n6, n7, n8, n9, n10, n11⟩ xs)) = gg) :
  Calls Try.prog 35 #[.pointer (some ⟨pb, 0, none⟩), .pointer (some ⟨pm, 0, none⟩), .agg (vActC a).toArray] w (Ret w0 fun v l' => ∃ qt qw qr, v = .bool true ∧ l' = Blk pb (.cells #[.slice ao xs.length c, .int .i64 n1, .int .i64 n2, .int .i64 n3, .int .i64 n4, .int .i64 n5, .int .i64 n6, .int .i64 n7, .int .i64 n8, .int .i64 n9, .int .i64 n10, .int .i64 n11, .pointer (some ⟨qt, 0, none⟩), .pointer (some ⟨qw, 0, none⟩), .pointer (some ⟨pv, 0, none⟩)] 131 (0, 0)) :: TreeObj qt (stepB gg ⟨t, tb⟩ a).t :: WObj qw qt (stepB gg ⟨t, tb⟩ a).t.nodes (ownE xs (effT (stepB gg ⟨t, tb⟩ a).tb) (stepB gg ⟨t, tb⟩ a).t.nodes) :: TabObj pv (stepB gg ⟨t, tb⟩ a).tb :: Blk pm (.cells #[.slice ao xs.length c, .int .i64 n1, .int .i64 n2, .int .i64 n3, .int .i64 n4, .int .i64 n5, .int .i64 n6, .int .i64 n7, .int .i64 n8, .int .i64 n9, .int .i64 n10, .int .i64 n11, .pointer (some ⟨qr, 0, none⟩), .pointer (some ⟨pq, 0, none⟩)] 127 (0, 0)) :: RTreeObj qr (stepB gg ⟨t, tb⟩ a).t :: RTabObj pq (stepB gg ⟨t, tb⟩ a).tb :: l) := by
 subst hG
 refine calls_enter Try.func35 rfl rfl rfl hs ?_
 refine Zj ?_; intro bx1
 refine Zb ?_
 refine Z7 ?_
 refine cd_drawe (M := []) mx [6, 7, 8] ?_
 refine Z22 ?_
 refine Z5y ?_
 refine e_q 2 rfl (wn_none rfl) (op_field fld_127_0 rfl) ?_
 refine e_q 3 rfl (wn_none rfl) (op_lda 5 ag_65 rfl rfl (by rfl) (by simp)) ?_
 refine e_q 4 rfl (wn_none rfl) (op_field fld_72_1 rfl) ?_
 refine e_q 5 rfl (wn_none rfl) (op_ld 0 sc_3 rfl rfl (vActC_a1 _)) ?_
 refine et_2 (i1 := 6) (i2 := 7) (by kernel_rfl) ?_ ?_
 ·
  refine ei_i rfl rfl (wn_none rfl) (os_call cb_67 rfl (fun w s => bname_calls _ _ _ _ _ _ _ _ _ _ _ _ _ _ _  s ((((((((hr.cons _).cons _).cons _).cons _).cons _).cons _).cons _).cons _) (by first | assumption | omega) (by assumption))) rfl ?_; rintro _ _ ⟨rfl, rfl⟩; refine ⟨[], rfl, ?_⟩
  refine Zt ?_
  refine ei_i rfl rfl (wn_none rfl) (os_alloc (cs := (rootC Root.zero).toArray) zB_24 (by kernel_rfl)) rfl ?_; rintro _ _ ⟨bx2, rfl, rfl⟩; refine ⟨[_], rfl, ?_⟩
  refine Zy ?_
  refine ei_iN rfl rfl (wn_none rfl) (os_storera _ ag_24 rfl rfl (Free.zero _)) ?_; rintro _ _ ⟨rfl, rfl⟩; refine ⟨[_], rfl, ?_⟩
  refine Z16 ?_
  refine Z15 ?_
  refine oq (op_field fld_72_0 rfl) ?_
  refine oq (op_ld 1 sc_3 rfl rfl (vActC_a0 _)) ?_
  refine Z48 ?_
  refine Z0 ?_
  refine Z54 ?_
  refine Zb ?_
  refine cd_cond rfl (fun hb1 => ?_) (fun hb1 => ?_)
  ·have hp1 := hb1
   (try simp only [bn] at hp1)
   have hk0 : a.kind = 0 := by omega
   refine cd_pull7 ?_
   refine cd_pull3 ?_
   refine Z6r ?_
   refine Z5d ?_
   refine cd_drawe (M := [_, _, _, _, _]) mx [8, 11, 23, 26] ?_
   refine Z22 ?_
   refine Zat ?_
   refine Z8n ?_
   refine e_q 3 rfl (wn_none rfl) (op_nilck rfl) ?_
   refine e_q 4 rfl (wn_none rfl) (op_field fld_127_0 rfl) ?_
   refine e_q 5 rfl (wn_none rfl) (op_lda 2 ag_65 rfl rfl (by rfl) (by simp)) ?_
   refine e_q 6 rfl (wn_none rfl) (op_field fld_72_2 rfl) ?_
   refine e_q 7 rfl (wn_none rfl) (op_ld 1 sc_3 rfl rfl (vActC_a2 _)) ?_
   refine e_q 9 rfl (wn_none rfl) (op_field fld_72_3 rfl) ?_
   refine e_q 10 rfl (wn_none rfl) (op_ld 1 sc_3 rfl rfl (vActC_a3 _)) ?_
   refine e_q 12 rfl (wn_none rfl) (op_move (v := .pointer _) rfl) ?_
   refine e_q 13 rfl (wn_none rfl) (op_nilck rfl) ?_
   refine e_q 14 rfl (wn_none rfl) (op_field fld_127_1 rfl) ?_
   refine e_q 15 rfl (wn_none rfl) (op_ld 2 sc_45 rfl rfl rfl) ?_
   refine Zd7 ?_
   refine e_q 18 rfl (wn_none rfl) (op_nilck rfl) ?_
   refine e_q 19 rfl (wn_none rfl) (op_field fld_127_0 rfl) ?_
   refine e_q 20 rfl (wn_none rfl) (op_lda 2 ag_65 rfl rfl (by rfl) (by simp)) ?_
   refine e_q 21 rfl (wn_none rfl) (op_field fld_72_2 rfl) ?_
   refine e_q 22 rfl (wn_none rfl) (op_ld 1 sc_3 rfl rfl (vActC_a2 _)) ?_
   refine e_q 24 rfl (wn_none rfl) (op_field fld_72_3 rfl) ?_
   refine e_q 25 rfl (wn_none rfl) (op_ld 1 sc_3 rfl rfl (vActC_a3 _)) ?_
   refine Zy ?_
   refine Za9 ?_
   refine Z2l ?_
   refine Zc9 ?_
   refine et_1 (i := 23) (by kernel_rfl) ?_
   refine Za9 ?_
   refine et_1 (i := 26) (by kernel_rfl) ?_
   refine Zca ?_
   refine e_q 27 rfl (wn_none rfl) (op_eq rfl rfl) ?_
   refine e_q 28 rfl (wn_none rfl) (op_assign (v := .bool _) rfl) ?_
   refine Z1t ?_
   refine Z2o ?_
   rw [stepB_0 (g := (shaM ([116, 111, 108, 108, 101, 114] ++ bytesC ⟨⟨ao, xs.length, c⟩, n1, n2, n3, n4, n5, n6, n7, n8, n9, n10, n11⟩ xs))) (b := ⟨t, tb⟩) hk0]
   exact Zcb
  have hp1 := hb1
  (try simp only [bn] at hp1)
  have hk0 : a.kind ≠ 0 := by omega
  refine Z0 ?_
  refine Z54 ?_
  refine Zb ?_
  refine cd_cond rfl (fun hb2 => ?_) (fun hb2 => ?_)
  ·have hp2 := hb2
   (try simp only [bn] at hp2)
   have hk1 : a.kind = 1 := by omega
   refine Z0 ?_
   refine oq (op_field fld_72_4 rfl) ?_
   refine oq (op_ld 1 sc_3 rfl rfl (vActC_a4 _)) ?_
   refine Zak ?_
   refine Z2k ?_
   refine Zcc ?_
   refine Z9x ?_; intro bx3
   refine Z78 ?_
   refine Z1 ?_
   refine cd_pull7 ?_
   refine cd_pull8 ?_
   refine cd_pull9 ?_
   refine cd_pull6 ?_
   refine cd_pull7 ?_
   refine cd_pull8 ?_
   refine cd_pull9 ?_
   refine Z7 ?_
   refine cd_draw (M := [_, _, _, _, _, _, _]) mx [2, 5] (by kernel_rfl) ?_
   refine Zd ?_
   refine Zaa ?_
   refine Zcd ?_
   refine Zd ?_
   refine Zaa ?_
   refine Zce ?_
   refine Z8b ?_
   refine Z2x ?_
   refine rg_nil_then7 ?_
   refine cd_ret ?_
   refine Z2o ?_
   rw [stepB_1 (g := (shaM ([116, 111, 108, 108, 101, 114] ++ bytesC ⟨⟨ao, xs.length, c⟩, n1, n2, n3, n4, n5, n6, n7, n8, n9, n10, n11⟩ xs))) (b := ⟨t, tb⟩) hk1]
   exact Zcf
  have hp2 := hb2
  (try simp only [bn] at hp2)
  have hk1 : a.kind ≠ 1 := by omega
  refine Z0 ?_
  refine Z54 ?_
  refine Zb ?_
  refine cd_cond rfl (fun hb3 => ?_) (fun hb3 => ?_)
  ·have hp3 := hb3
   (try simp only [bn] at hp3)
   have hk2 : a.kind = 2 := by omega
   rcases hix : idxOf t.nodes (bName (shaM ([116, 111, 108, 108, 101, 114] ++ bytesC ⟨⟨ao, xs.length, c⟩, n1, n2, n3, n4, n5, n6, n7, n8, n9, n10, n11⟩ xs)) a.root) with _ | x0
   ·
    refine cd_pull6 ?_
    refine cd_pull7 ?_
    refine Z6r ?_
    refine Z5d ?_
    refine Zab ?_
    refine Zd ?_
    refine Z17 ?_
    refine Zcg ?_
    refine Zd ?_
    refine Z17 ?_
    refine Zch ?_
    refine Z8b ?_
    refine Z2x ?_
    refine rg_nil_then5 ?_
    refine cd_ret ?_
    refine Z2o ?_
    rw [stepB_2 (g := (shaM ([116, 111, 108, 108, 101, 114] ++ bytesC ⟨⟨ao, xs.length, c⟩, n1, n2, n3, n4, n5, n6, n7, n8, n9, n10, n11⟩ xs))) (b := ⟨t, tb⟩) hk2, keepT_no hix]
    exact Zac
   refine cd_pull6 ?_
   refine cd_pull7 ?_
   refine Z6r ?_
   refine Z5d ?_
   refine Zab ?_
   refine Zd ?_
   refine Z17 ?_
   refine Zci ?_; intro qt10 qw10
   refine Zd ?_
   refine Z17 ?_
   refine Zcj ?_; intro qr11
   refine Z8b ?_
   refine Z2x ?_
   refine rg_nil_then5 ?_
   refine cd_ret ?_
   refine Z2o ?_
   rw [stepB_2 (g := (shaM ([116, 111, 108, 108, 101, 114] ++ bytesC ⟨⟨ao, xs.length, c⟩, n1, n2, n3, n4, n5, n6, n7, n8, n9, n10, n11⟩ xs))) (b := ⟨t, tb⟩) hk2, keepT_yes hix]
   exact Zac
  have hp3 := hb3
  (try simp only [bn] at hp3)
  have hk2 : a.kind ≠ 2 := by omega
  refine cd_skip ?_
  refine Z97 ?_
  refine Zg ?_
  refine Zak ?_
  refine ol_pull5 ?_
  refine Zl ?_
  refine oi (os_call cb_70 rfl (fun w s => BForget_calls _ _ _ _ _ _ _ _ _ _ _ _ _ _ _ _ _ _ _ _  s (by omega))) ?_; rintro _ _ ⟨rfl, rfl⟩
  refine Z1 ?_
  refine cd_pull8 ?_
  refine Z7 ?_
  refine cd_draw (M := [_]) mx [6] (by kernel_rfl) ?_
  refine Z6 ?_
  refine rg_q (wn_none rfl) (op_field fld_127_2 rfl) rfl rfl ?_
  refine rg_q (wn_none rfl) (op_ld 6 sc_125 rfl rfl rfl) rfl rfl ?_
  refine rg_q (wn_none rfl) (op_field fld_72_3 rfl) rfl rfl ?_
  refine rg_q (wn_none rfl) (op_ld 3 sc_3 rfl rfl (vActC_a3 _)) rfl rfl ?_
  refine Zck ?_
  refine rg_nil_then1 ?_
  refine Z0 ?_
  refine Zk ?_
  rw [stepB_3 (g := (shaM ([116, 111, 108, 108, 101, 114] ++ bytesC ⟨⟨ao, xs.length, c⟩, n1, n2, n3, n4, n5, n6, n7, n8, n9, n10, n11⟩ xs))) (b := ⟨t, tb⟩) hk0 hk1 hk2, forget_eff]
  exact Zcl
 refine ei_i rfl rfl (wn_none rfl) (os_alloc (cs := (rootC Root.zero).toArray) zB_24 (by kernel_rfl)) rfl ?_; rintro _ _ ⟨bx4, rfl, rfl⟩; refine ⟨[_], rfl, ?_⟩
 refine Z14 ?_
 refine ei_i rfl rfl (wn_none rfl) (os_call cb_67 rfl (fun w s => bname_calls _ _ _ _ _ _ _ _ _ _ _ _ _ _ _  s (((((((((hr.cons _).cons _).cons _).cons _).cons _).cons _).cons _).cons _).cons _) (by first | assumption | omega) (by assumption))) rfl ?_; rintro _ _ ⟨rfl, rfl⟩; refine ⟨[_], rfl, ?_⟩
 refine Zy ?_
 refine ei_iN rfl rfl (wn_none rfl) (os_storera _ ag_24 rfl rfl (Free.zero _)) ?_; rintro _ _ ⟨rfl, rfl⟩; refine ⟨[_], rfl, ?_⟩
 refine Z16 ?_
 refine Z15 ?_
 refine oq (op_field fld_72_0 rfl) ?_
 refine oq (op_ld 1 sc_3 rfl rfl (vActC_a0 _)) ?_
 refine Z48 ?_
 refine Z0 ?_
 refine Z54 ?_
 refine Zb ?_
 refine cd_cond rfl (fun hb4 => ?_) (fun hb4 => ?_)
 ·have hp4 := hb4
  (try simp only [bn] at hp4)
  have hk0 : a.kind = 0 := by omega
  refine cd_pull7 ?_
  refine cd_pull3 ?_
  refine Z6r ?_
  refine Z5d ?_
  refine cd_drawe (M := [_, _, _, _, _]) mx [8, 11, 23, 26] ?_
  refine Z22 ?_
  refine Zat ?_
  refine Z8n ?_
  refine e_q 3 rfl (wn_none rfl) (op_nilck rfl) ?_
  refine e_q 4 rfl (wn_none rfl) (op_field fld_127_0 rfl) ?_
  refine e_q 5 rfl (wn_none rfl) (op_lda 2 ag_65 rfl rfl (by rfl) (by simp)) ?_
  refine e_q 6 rfl (wn_none rfl) (op_field fld_72_2 rfl) ?_
  refine e_q 7 rfl (wn_none rfl) (op_ld 1 sc_3 rfl rfl (vActC_a2 _)) ?_
  refine e_q 9 rfl (wn_none rfl) (op_field fld_72_3 rfl) ?_
  refine e_q 10 rfl (wn_none rfl) (op_ld 1 sc_3 rfl rfl (vActC_a3 _)) ?_
  refine e_q 12 rfl (wn_none rfl) (op_move (v := .pointer _) rfl) ?_
  refine e_q 13 rfl (wn_none rfl) (op_nilck rfl) ?_
  refine e_q 14 rfl (wn_none rfl) (op_field fld_127_1 rfl) ?_
  refine e_q 15 rfl (wn_none rfl) (op_ld 2 sc_45 rfl rfl rfl) ?_
  refine Zd7 ?_
  refine e_q 18 rfl (wn_none rfl) (op_nilck rfl) ?_
  refine e_q 19 rfl (wn_none rfl) (op_field fld_127_0 rfl) ?_
  refine e_q 20 rfl (wn_none rfl) (op_lda 2 ag_65 rfl rfl (by rfl) (by simp)) ?_
  refine e_q 21 rfl (wn_none rfl) (op_field fld_72_2 rfl) ?_
  refine e_q 22 rfl (wn_none rfl) (op_ld 1 sc_3 rfl rfl (vActC_a2 _)) ?_
  refine e_q 24 rfl (wn_none rfl) (op_field fld_72_3 rfl) ?_
  refine e_q 25 rfl (wn_none rfl) (op_ld 1 sc_3 rfl rfl (vActC_a3 _)) ?_
  refine Zy ?_
  refine Za9 ?_
  refine Z2l ?_
  refine Zc9 ?_
  refine et_1 (i := 23) (by kernel_rfl) ?_
  refine Za9 ?_
  refine et_1 (i := 26) (by kernel_rfl) ?_
  refine Zca ?_
  refine e_q 27 rfl (wn_none rfl) (op_eq rfl rfl) ?_
  refine e_q 28 rfl (wn_none rfl) (op_assign (v := .bool _) rfl) ?_
  refine Z1t ?_
  refine Z2o ?_
  rw [stepB_0 (g := (shaM ([116, 111, 108, 108, 101, 114] ++ bytesC ⟨⟨ao, xs.length, c⟩, n1, n2, n3, n4, n5, n6, n7, n8, n9, n10, n11⟩ xs))) (b := ⟨t, tb⟩) hk0]
  exact Zcb
 have hp4 := hb4
 (try simp only [bn] at hp4)
 have hk0 : a.kind ≠ 0 := by omega
 refine Z0 ?_
 refine Z54 ?_
 refine Zb ?_
 refine cd_cond rfl (fun hb5 => ?_) (fun hb5 => ?_)
 ·have hp5 := hb5
  (try simp only [bn] at hp5)
  have hk1 : a.kind = 1 := by omega
  refine Z0 ?_
  refine oq (op_field fld_72_4 rfl) ?_
  refine oq (op_ld 1 sc_3 rfl rfl (vActC_a4 _)) ?_
  refine Zak ?_
  refine Z2k ?_
  refine Zcc ?_
  refine Z9x ?_; intro bx5
  refine Z78 ?_
  refine Z1 ?_
  refine cd_pull7 ?_
  refine cd_pull8 ?_
  refine cd_pull9 ?_
  refine cd_pull6 ?_
  refine cd_pull7 ?_
  refine cd_pull8 ?_
  refine cd_pull9 ?_
  refine Z7 ?_
  refine cd_draw (M := [_, _, _, _, _, _, _]) mx [2, 5] (by kernel_rfl) ?_
  refine Zd ?_
  refine Zaa ?_
  refine Zcd ?_
  refine Zd ?_
  refine Zaa ?_
  refine Zce ?_
  refine Z8b ?_
  refine Z2x ?_
  refine rg_nil_then7 ?_
  refine cd_ret ?_
  refine Z2o ?_
  rw [stepB_1 (g := (shaM ([116, 111, 108, 108, 101, 114] ++ bytesC ⟨⟨ao, xs.length, c⟩, n1, n2, n3, n4, n5, n6, n7, n8, n9, n10, n11⟩ xs))) (b := ⟨t, tb⟩) hk1]
  exact Zcf
 have hp5 := hb5
 (try simp only [bn] at hp5)
 have hk1 : a.kind ≠ 1 := by omega
 refine Z0 ?_
 refine Z54 ?_
 refine Zb ?_
 refine cd_cond rfl (fun hb6 => ?_) (fun hb6 => ?_)
 ·have hp6 := hb6
  (try simp only [bn] at hp6)
  have hk2 : a.kind = 2 := by omega
  rcases hix : idxOf t.nodes (bName (shaM ([116, 111, 108, 108, 101, 114] ++ bytesC ⟨⟨ao, xs.length, c⟩, n1, n2, n3, n4, n5, n6, n7, n8, n9, n10, n11⟩ xs)) a.root) with _ | x0
  ·
   refine cd_pull6 ?_
   refine cd_pull7 ?_
   refine Z6r ?_
   refine Z5d ?_
   refine Zab ?_
   refine Zd ?_
   refine Z17 ?_
   refine Zcg ?_
   refine Zd ?_
   refine Z17 ?_
   refine Zch ?_
   refine Z8b ?_
   refine Z2x ?_
   refine rg_nil_then5 ?_
   refine cd_ret ?_
   refine Z2o ?_
   rw [stepB_2 (g := (shaM ([116, 111, 108, 108, 101, 114] ++ bytesC ⟨⟨ao, xs.length, c⟩, n1, n2, n3, n4, n5, n6, n7, n8, n9, n10, n11⟩ xs))) (b := ⟨t, tb⟩) hk2, keepT_no hix]
   exact Zac
  refine cd_pull6 ?_
  refine cd_pull7 ?_
  refine Z6r ?_
  refine Z5d ?_
  refine Zab ?_
  refine Zd ?_
  refine Z17 ?_
  refine Zci ?_; intro qt23 qw23
  refine Zd ?_
  refine Z17 ?_
  refine Zcj ?_; intro qr24
  refine Z8b ?_
  refine Z2x ?_
  refine rg_nil_then5 ?_
  refine cd_ret ?_
  refine Z2o ?_
  rw [stepB_2 (g := (shaM ([116, 111, 108, 108, 101, 114] ++ bytesC ⟨⟨ao, xs.length, c⟩, n1, n2, n3, n4, n5, n6, n7, n8, n9, n10, n11⟩ xs))) (b := ⟨t, tb⟩) hk2, keepT_yes hix]
  exact Zac
 have hp6 := hb6
 (try simp only [bn] at hp6)
 have hk2 : a.kind ≠ 2 := by omega
 refine cd_skip ?_
 refine Z97 ?_
 refine Zg ?_
 refine Zak ?_
 refine ol_pull5 ?_
 refine Zl ?_
 refine oi (os_call cb_70 rfl (fun w s => BForget_calls _ _ _ _ _ _ _ _ _ _ _ _ _ _ _ _ _ _ _ _  s (by omega))) ?_; rintro _ _ ⟨rfl, rfl⟩
 refine Z1 ?_
 refine cd_pull8 ?_
 refine Z7 ?_
 refine cd_draw (M := [_]) mx [6] (by kernel_rfl) ?_
 refine Z6 ?_
 refine rg_q (wn_none rfl) (op_field fld_127_2 rfl) rfl rfl ?_
 refine rg_q (wn_none rfl) (op_ld 6 sc_125 rfl rfl rfl) rfl rfl ?_
 refine rg_q (wn_none rfl) (op_field fld_72_3 rfl) rfl rfl ?_
 refine rg_q (wn_none rfl) (op_ld 3 sc_3 rfl rfl (vActC_a3 _)) rfl rfl ?_
 refine Zck ?_
 refine rg_nil_then1 ?_
 refine Z0 ?_
 refine Zk ?_
 rw [stepB_3 (g := (shaM ([116, 111, 108, 108, 101, 114] ++ bytesC ⟨⟨ao, xs.length, c⟩, n1, n2, n3, n4, n5, n6, n7, n8, n9, n10, n11⟩ xs))) (b := ⟨t, tb⟩) hk0 hk1 hk2, forget_eff]
 exact Zcl

set_option maxRecDepth 100000 in
set_option maxHeartbeats 1000000 in
theorem vbegun_calls {w0 w : World} {l : List HProp} (ao : Option Addr) (c : Nat) (xs : List Val) (n1 n2 n3 n4 n5 n6 n7 n8 n9 n10 n11 : Int) (lo : Option Addr) (lc : Nat) (acts : List VAct) (most : Int) (hs : Sat w0 w (l)) (hr : Rds w0 l encVal ao xs) (hq : ∀ y ∈ xs, I64 y.stake ∧ y.key.length ≤ maxLen) (hm : most ≤ 1000) :
  Calls Try.prog 34 #[.agg (cfgC ⟨⟨ao, xs.length, c⟩, n1, n2, n3, n4, n5, n6, n7, n8, n9, n10, n11⟩).toArray, .slice lo acts.length lc, .int .i64 most] w (Ret w0 fun v l' => ((greatC xs = true ∨ most < (acts.length : Int) ∨ goodC ⟨⟨ao, xs.length, c⟩, n1, n2, n3, n4, n5, n6, n7, n8, n9, n10, n11⟩ xs = false) ∧ v = .tuple #[.pointer none, .pointer none, .bool false] ∧ l' = l) ∨ (goodC ⟨⟨ao, xs.length, c⟩, n1, n2, n3, n4, n5, n6, n7, n8, n9, n10, n11⟩ xs = true ∧ (acts.length : Int) ≤ most ∧ ∃ pb pt pw pv pm pr pq, v = .tuple #[.pointer (some ⟨pb, 0, none⟩), .pointer (some ⟨pm, 0, none⟩), .bool true] ∧ l' = Blk pb (.cells #[.slice ao xs.length c, .int .i64 n1, .int .i64 n2, .int .i64 n3, .int .i64 n4, .int .i64 n5, .int .i64 n6, .int .i64 n7, .int .i64 n8, .int .i64 n9, .int .i64 n10, .int .i64 n11, .pointer (some ⟨pt, 0, none⟩), .pointer (some ⟨pw, 0, none⟩), .pointer (some ⟨pv, 0, none⟩)] 131 (0, 0)) :: TreeObj pt (newB (shaM ([116, 111, 108, 108, 101, 114] ++ bytesC ⟨⟨ao, xs.length, c⟩, n1, n2, n3, n4, n5, n6, n7, n8, n9, n10, n11⟩ xs)) n3 xs.length n1).t :: WObj pw pt (newB (shaM ([116, 111, 108, 108, 101, 114] ++ bytesC ⟨⟨ao, xs.length, c⟩, n1, n2, n3, n4, n5, n6, n7, n8, n9, n10, n11⟩ xs)) n3 xs.length n1).t.nodes (ownE xs (effT (newB (shaM ([116, 111, 108, 108, 101, 114] ++ bytesC ⟨⟨ao, xs.length, c⟩, n1, n2, n3, n4, n5, n6, n7, n8, n9, n10, n11⟩ xs)) n3 xs.length n1).tb) (newB (shaM ([116, 111, 108, 108, 101, 114] ++ bytesC ⟨⟨ao, xs.length, c⟩, n1, n2, n3, n4, n5, n6, n7, n8, n9, n10, n11⟩ xs)) n3 xs.length n1).t.nodes) :: TabObj pv (newB (shaM ([116, 111, 108, 108, 101, 114] ++ bytesC ⟨⟨ao, xs.length, c⟩, n1, n2, n3, n4, n5, n6, n7, n8, n9, n10, n11⟩ xs)) n3 xs.length n1).tb :: Blk pm (.cells #[.slice ao xs.length c, .int .i64 n1, .int .i64 n2, .int .i64 n3, .int .i64 n4, .int .i64 n5, .int .i64 n6, .int .i64 n7, .int .i64 n8, .int .i64 n9, .int .i64 n10, .int .i64 n11, .pointer (some ⟨pr, 0, none⟩), .pointer (some ⟨pq, 0, none⟩)] 127 (0, 0)) :: RTreeObj pr (newB (shaM ([116, 111, 108, 108, 101, 114] ++ bytesC ⟨⟨ao, xs.length, c⟩, n1, n2, n3, n4, n5, n6, n7, n8, n9, n10, n11⟩ xs)) n3 xs.length n1).t :: RTabObj pq (newB (shaM ([116, 111, 108, 108, 101, 114] ++ bytesC ⟨⟨ao, xs.length, c⟩, n1, n2, n3, n4, n5, n6, n7, n8, n9, n10, n11⟩ xs)) n3 xs.length n1).tb :: l)) := by
 refine calls_enter Try.func34 rfl rfl rfl hs ?_
 refine Zj ?_; intro bx1
 refine Zc ?_
 refine Z4u ?_
 refine Z15 ?_
 refine Z4m ?_
 refine oi (os_call cb_65 rfl (fun w s => Great_calls _ _ _ _ _ _ _ _ _ _ _ _ _ _  s (hr.cons _))) ?_; rintro _ _ ⟨rfl, rfl⟩
 refine Z5 ?_
 refine ol_split 14 rfl (fun hb1 => ?_) (fun hb1 => ?_)
 ·have hp1 := hb1
  (try simp only [bn] at hp1)
  have hb1 : greatC xs = true := by simpa using hb1
  refine Z3o ?_
  refine Z20 ?_
  refine Z3p ?_
  refine Zc ?_
  refine Zv ?_
  exact px_ret3 rfl (v1 := .pointer _) (v2 := .pointer _) (v3 := .bool _) rfl rfl rfl (fun _ s => (s.del 0)) (.inl ⟨.inl hb1, rfl, rfl⟩)
 have hp1 := hb1
 (try simp only [bn] at hp1)
 have hgr : greatC xs = false := by simpa using hb1
 have hxl : xs.length ≤ 100 := by unfold greatC at hgr; rw [Bool.or_eq_false_iff] at hgr; have := of_decide_eq_false hgr.1; omega
 refine ol_q (wn_some rfl rfl rfl hb1 rfl) (op_move (v := .slice _ _ _) rfl) rfl ?_
 refine ol_q (wn_some rfl rfl rfl hb1 rfl) (op_len_slice Try.underlying66 rfl) rfl ?_
 refine Z2q ?_
 refine Z8f ?_
 refine Z21 ?_
 refine Z1 ?_
 refine cd_cond rfl (fun hb2 => ?_) (fun hb2 => ?_)
 ·have hp2 := hb2
  (try simp only [bn] at hp2)
  refine Z31 ?_
  refine Zc ?_
  refine Zv ?_
  exact px_ret3 rfl (v1 := .pointer _) (v2 := .pointer _) (v3 := .bool _) rfl rfl rfl (fun _ s => (s.del 0)) (.inl ⟨.inr (.inl (by omega)), rfl, rfl⟩)
 have hp2 := hb2
 (try simp only [bn] at hp2)
 refine Za ?_
 rcases hgc : goodC ⟨⟨ao, xs.length, c⟩, n1, n2, n3, n4, n5, n6, n7, n8, n9, n10, n11⟩ xs
 ·
  refine Z0 ?_
  refine Z4m ?_
  refine oi (os_call cb_62 rfl (fun w s => BNewN_calls _ _ _ _ _ _ _ _ _ _ _ _ _ _  s (by assumption) (hr.cons _) (by omega))) ?_; rintro _ _ ⟨rfl, rfl⟩
  refine Zc ?_
  refine Z19 ?_
  refine Z4m ?_
  refine oi (os_call cb_66 rfl (fun w s => RBNewN_calls _ _ _ _ _ _ _ _ _ _ _ _ _ _  s (by assumption) (hr.cons _) (by omega) (by assumption))) ?_; rintro _ _ ⟨rfl, rfl⟩
  refine Z38 ?_
  refine Z5l ?_
  refine Z52 ?_
  refine Z4u ?_
  refine Z3i ?_
  refine Z5 ?_
  refine Z5p ?_
  refine Z6v ?_
  refine Zc ?_
  refine Zc ?_
  refine Zk ?_
  exact px_ret3 rfl (v1 := .pointer _) (v2 := .pointer _) (v3 := .bool _) rfl rfl rfl (fun _ s => (s.del 0)) (.inl ⟨.inr (.inr rfl), rfl, rfl⟩)
 refine Z0 ?_
 refine Z4m ?_
 refine oi (os_call cb_62 rfl (fun w s => BNewS_calls _ _ _ _ _ _ _ _ _ _ _ _ _ _  s (by assumption) (hr.cons _))) ?_; rintro _ _ ⟨pb4, pt4, pw4, pv4, rfl, rfl⟩
 refine Zc ?_
 refine Z19 ?_
 refine oq (op_lda (L := cfgC _) 4 ag_65 rfl rfl (cfgC_ta _) (by simp [cfgC_len])) ?_
 refine oi (os_call cb_66 rfl (fun w s => RBNewS_calls _ _ _ _ _ _ _ _ _ _ _ _ _ _  s (by assumption) (((((hr.cons _).cons _).cons _).cons _).cons _) (by assumption))) ?_; rintro _ _ ⟨pm5, pr5, pq5, rfl, rfl⟩
 refine Z38 ?_
 refine Z5l ?_
 refine Z52 ?_
 refine Z4u ?_
 refine Z3i ?_
 refine Z5 ?_
 refine Z5 ?_
 refine ol_q (wn_some rfl rfl rfl rfl rfl) (op_move (v := .pointer _) rfl) rfl ?_
 refine ol_q (wn_some rfl rfl rfl rfl rfl) (op_nenil Try.underlying67 rfl rfl) rfl ?_
 refine Z6b ?_
 refine Zc ?_
 refine Zc ?_
 refine Zk ?_
 exact px_ret3 rfl (v1 := .pointer _) (v2 := .pointer _) (v3 := .bool true) (l' := Blk pb4 (.cells #[.slice ao xs.length c, .int .i64 n1, .int .i64 n2, .int .i64 n3, .int .i64 n4, .int .i64 n5, .int .i64 n6, .int .i64 n7, .int .i64 n8, .int .i64 n9, .int .i64 n10, .int .i64 n11, .pointer (some ⟨_, 0, none⟩), .pointer (some ⟨_, 0, none⟩), .pointer (some ⟨_, 0, none⟩)] 131 (0, 0)) :: TreeObj _ (newB (shaM ([116, 111, 108, 108, 101, 114] ++ bytesC ⟨⟨ao, xs.length, c⟩, n1, n2, n3, n4, n5, n6, n7, n8, n9, n10, n11⟩ xs)) n3 xs.length n1).t :: WObj _ _ (newB (shaM ([116, 111, 108, 108, 101, 114] ++ bytesC ⟨⟨ao, xs.length, c⟩, n1, n2, n3, n4, n5, n6, n7, n8, n9, n10, n11⟩ xs)) n3 xs.length n1).t.nodes (ownE xs (effT (newB (shaM ([116, 111, 108, 108, 101, 114] ++ bytesC ⟨⟨ao, xs.length, c⟩, n1, n2, n3, n4, n5, n6, n7, n8, n9, n10, n11⟩ xs)) n3 xs.length n1).tb) (newB (shaM ([116, 111, 108, 108, 101, 114] ++ bytesC ⟨⟨ao, xs.length, c⟩, n1, n2, n3, n4, n5, n6, n7, n8, n9, n10, n11⟩ xs)) n3 xs.length n1).t.nodes) :: TabObj _ (newB (shaM ([116, 111, 108, 108, 101, 114] ++ bytesC ⟨⟨ao, xs.length, c⟩, n1, n2, n3, n4, n5, n6, n7, n8, n9, n10, n11⟩ xs)) n3 xs.length n1).tb :: Blk pm5 (.cells #[.slice ao xs.length c, .int .i64 n1, .int .i64 n2, .int .i64 n3, .int .i64 n4, .int .i64 n5, .int .i64 n6, .int .i64 n7, .int .i64 n8, .int .i64 n9, .int .i64 n10, .int .i64 n11, .pointer (some ⟨_, 0, none⟩), .pointer (some ⟨_, 0, none⟩)] 127 (0, 0)) :: RTreeObj _ (newB (shaM ([116, 111, 108, 108, 101, 114] ++ bytesC ⟨⟨ao, xs.length, c⟩, n1, n2, n3, n4, n5, n6, n7, n8, n9, n10, n11⟩ xs)) n3 xs.length n1).t :: RTabObj _ (newB (shaM ([116, 111, 108, 108, 101, 114] ++ bytesC ⟨⟨ao, xs.length, c⟩, n1, n2, n3, n4, n5, n6, n7, n8, n9, n10, n11⟩ xs)) n3 xs.length n1).tb :: l) rfl rfl rfl (fun _ s => ((((((((s.del 7).pull 2).pull 2).pull 2).pull 6).pull 6).pull 6).pull 6)) (.inr ⟨rfl, by omega, _, _, _, _, _, _, _, rfl, rfl⟩)
end Go.SL

set_option linter.unusedVariables false
set_option linter.unusedSimpArgs false
namespace Go.SL
open Go.Proofs

set_option maxRecDepth 100000 in
set_option maxHeartbeats 1000000 in
theorem vAlive_calls {w0 w : World} {l : List HProp}  (hs : Sat w0 w (l))  :
  Calls Try.prog 33 #[] w (Ret w0 fun v l' => v = .bool true ∧ l' = l) := by
 refine calls_enter Try.func33 rfl rfl rfl hs ?_
 refine Z0 ?_
 refine Zb ?_
 refine Z0 ?_
 refine oq (op_build (L := valC ⟨5, [107]⟩) (vs := [(0, .int _ _), (1, .string _)]) bB_78 rfl ⟨⟨rfl, by rw [valC_len]; rfl⟩, ⟨rfl, by rw [valC_len]; rfl⟩, trivial⟩ (by simp [fill2, valC, Val.zero, SlV.v, B, Value.cells])) ?_
 refine oi (os_bslice (E := encVal) [_] (ys := alX) sB_63 zv_78 rfl rfl rfl rfl (by decide)) ?_; rintro _ _ ⟨ao1, rfl, rfl⟩
 refine oq (op_build (L := cfgC ⟨⟨ao1, 1, 1⟩, 4, 1, 9, 1, 1, 1, 1, 1, 1, 1, 1⟩) (vs := [(0, (SlV.v ⟨_, _, _⟩)), (1, .int _ _), (2, .int _ _), (3, .int _ _), (4, .int _ _), (5, .int _ _), (6, .int _ _), (7, .int _ _), (8, .int _ _), (9, .int _ _), (10, .int _ _), (11, .int _ _)]) bB_65 rfl ⟨⟨rfl, by rw [cfgC_len]; rfl⟩, ⟨rfl, by rw [cfgC_len]; rfl⟩, ⟨rfl, by rw [cfgC_len]; rfl⟩, ⟨rfl, by rw [cfgC_len]; rfl⟩, ⟨rfl, by rw [cfgC_len]; rfl⟩, ⟨rfl, by rw [cfgC_len]; rfl⟩, ⟨rfl, by rw [cfgC_len]; rfl⟩, ⟨rfl, by rw [cfgC_len]; rfl⟩, ⟨rfl, by rw [cfgC_len]; rfl⟩, ⟨rfl, by rw [cfgC_len]; rfl⟩, ⟨rfl, by rw [cfgC_len]; rfl⟩, ⟨rfl, by rw [cfgC_len]; rfl⟩, trivial⟩ (by simp [fill2, cfgC, Cfg.zero, SlV.v, B, Value.cells])) ?_
 refine oi (os_alloc (cs := (cfgC Cfg.zero).toArray) zB_65 (by kernel_rfl)) ?_; rintro _ _ ⟨bx1, rfl, rfl⟩
 refine oN (os_storew (cfgC _) ag_65 rfl rfl (cfgC_len _) (cfgC_one _) (by simp [cfgC_len]) (Free.zero _)) ?_; rintro _ _ ⟨rfl, rfl⟩
 refine Z1 ?_
 have hgg := alB_g ao1 alX.length 1
 have hsk := goodC_stk hgg
 have hkk : ∀ y ∈ alX, y.key.length ≤ 32 := by decide
 have hh1 : headW (TreeS.new alF 0 9).nodes (ownE alX (effT (TabS.new alX.length 4)) (TreeS.new alF 0 9).nodes) = alF := alB_1
 have hh2 : ((TreeS.new alF 0 9).add (nameR 1) alF 2).1 = 0 := alB_2
 have hh3 : BookS.take ⟨((TreeS.new alF 0 9).add (nameR 1) alF 2).2, (TabS.new alX.length 4)⟩ ⟨0, 1, nameR 1⟩ = (6, (TabS.new alX.length 4)) := alB_3
 have hh4 : (BookS.take ⟨((TreeS.new alF 0 9).add (nameR 1) alF 2).2, (TabS.new alX.length 4)⟩ ⟨0, 2, nameR 1⟩).1 = 0 := alB_4
 have hh5 : ofF ((TreeS.new alF 0 9).add (nameR 1) alF 2).2 (ownE alX (effT (BookS.take ⟨((TreeS.new alF 0 9).add (nameR 1) alF 2).2, (TabS.new alX.length 4)⟩ ⟨0, 2, nameR 1⟩).2) ((TreeS.new alF 0 9).add (nameR 1) alF 2).2.nodes).length (sumN ((TreeS.new alF 0 9).add (nameR 1) alF 2).2.nodes (ownE alX (effT (BookS.take ⟨((TreeS.new alF 0 9).add (nameR 1) alF 2).2, (TabS.new alX.length 4)⟩ ⟨0, 2, nameR 1⟩).2) ((TreeS.new alF 0 9).add (nameR 1) alF 2).2.nodes)) alF = 5 := alB_5
 have hh6 : headW ((TreeS.new alF 0 9).add (nameR 1) alF 2).2.nodes (ownE alX (effT (BookS.take ⟨((TreeS.new alF 0 9).add (nameR 1) alF 2).2, (TabS.new alX.length 4)⟩ ⟨0, 2, nameR 1⟩).2) ((TreeS.new alF 0 9).add (nameR 1) alF 2).2.nodes) = nameR 1 := alB_6
 have hq1 : 0 < (ownE alX (effT (TabS.new alX.length 4)) (TreeS.new alF 0 9).nodes).length := alB_p
 have hq2 : 0 < (ownE alX (effT (BookS.take ⟨((TreeS.new alF 0 9).add (nameR 1) alF 2).2, (TabS.new alX.length 4)⟩ ⟨0, 2, nameR 1⟩).2) ((TreeS.new alF 0 9).add (nameR 1) alF 2).2.nodes).length := alB_q
 have hll2 : (BookS.take ⟨((TreeS.new alF 0 9).add (nameR 1) alF 2).2, (TabS.new alX.length 4)⟩ ⟨0, 1, nameR 1⟩).2.latest.length = alX.length := by rw [hh3]; rfl
 refine Z0 ?_
 refine Z4m ?_
 refine oi (os_call cb_62 rfl (fun w s => BNewS_calls (ao := ao1) (c := 1) (xs := alX) (n1 := 4) (n2 := 1) (n3 := 9) (n4 := 1) (n5 := 1) (n6 := 1) (n7 := 1) (n8 := 1) (n9 := 1) (n10 := 1) (n11 := 1)  s hgg (rds_row 1 rfl rfl))) ?_; rintro _ _ ⟨pb1, pt1, pw1, pv1, rfl, rfl⟩; rw [alB_0]
 refine Zc ?_
 refine Z19 ?_
 refine oq (op_lda (L := cfgC _) 4 ag_65 rfl rfl (cfgC_ta _) (by simp [cfgC_len])) ?_
 refine oi (os_call cb_63 rfl (fun w s => RRoot_calls (ao := ao1) (c := 1) (xs := alX) (n1 := 4) (n2 := 1) (n3 := 9) (n4 := 1) (n5 := 1) (n6 := 1) (n7 := 1) (n8 := 1) (n9 := 1) (n10 := 1) (n11 := 1)  s (rds_row 5 rfl rfl) (by decide) hkk)) ?_; rintro _ _ ⟨rfl, rfl⟩; rw [alB_0]
 refine Z1w ?_; intro bx2
 refine Z4h ?_
 refine Z19 ?_
 refine oi (os_call cb_17 rfl (fun w s => Name_calls (n := 1)  s )) ?_; rintro _ _ ⟨rfl, rfl⟩
 refine Z1w ?_; intro bx3
 refine Z4h ?_
 refine Z1 ?_
 refine cd_pull2 ?_
 refine cd_pull3 ?_
 refine Z6r ?_
 refine Z7 ?_
 refine cd_drawe (M := [_, _, _, _]) mx [1, 8, 15, 22, 28, 33] ?_
 refine Z22 ?_
 refine e_q 2 rfl (wn_none rfl) (op_lda (L := rootC _) 1 ag_24 rfl rfl (rootC_take' _) (by simp [rootC_len])) ?_
 refine Z3f ?_
 refine ei_i rfl rfl (wn_none rfl) (os_back (os_pull1 (os_pull2 (os_pull3 (os_call cb_38 rfl (fun w s => BHead_calls _ _ _ _ _ _ _ _ _ _ _ _ _ _ _ _ _ _ _ _  s (Nat.le_of_eq (ownE_len _ _ _)) hq1))))) (fun _ s => ((((((((s.pull 7).pull 7).pull 7).pull 7).pull 4).pull 5).pull 6).pull 7))) rfl ?_; rintro _ _ ⟨rfl, rfl⟩; rw [hh1]; refine ⟨[_, _, _, _], rfl, ?_⟩
 refine e_q 3 rfl (wn_none rfl) (op_eqroot _ _ rB_24 rfl rfl) ?_
 refine Z6l ?_
 refine et_split 17 rfl (fun hb1 => ?_) (fun hb1 => ?_)
 ·have hp1 := hb1
  (try simp only [bn] at hp1)
  refine e_q 5 rfl (wn_some rfl rfl rfl hb1 rfl) (op_move (v := .pointer _) rfl) ?_
  refine e_q 6 rfl (wn_some rfl rfl rfl hb1 rfl) (op_lda (L := rootC _) 0 ag_24 rfl rfl (rootC_take' _) (by simp [rootC_len])) ?_
  refine e_q 7 rfl (wn_some rfl rfl rfl hb1 rfl) (op_lda (L := rootC _) 1 ag_24 rfl rfl (rootC_take' _) (by simp [rootC_len])) ?_
  refine Zy ?_
  refine ei_i rfl rfl (wn_some rfl rfl rfl hb1 rfl) (os_pull1 (os_pull2 (os_pull3 (os_call cb_64 rfl (fun w s => BAdd_calls (slot := 2) _ _ _ _ _ _ _ _ _ _ _ _ _ _ _ _ _ _ _ _ _ _  s rfl hsk (rds_row 3 rfl rfl)))))) rfl ?_; rintro _ _ ⟨rfl, rfl⟩; rw [hh2]; refine ⟨[_, _, _, _], rfl, ?_⟩
  refine e_q 9 rfl (wn_some rfl rfl rfl hb1 rfl) (op_eq rfl rfl) ?_
  refine e_q 10 rfl (wn_none rfl) (op_pick_t (v := .bool _) rfl hb1 rfl) ?_
  refine e_q 11 rfl (wn_none rfl) (op_move (v := .bool _) rfl) ?_
  refine et_split 24 rfl (fun hb2 => ?_) (fun hb2 => ?_)
  ·have hp2 := hb2
   (try simp only [bn] at hp2)
   refine e_q 12 rfl (wn_some rfl rfl rfl hb2 rfl) (op_move (v := .pointer _) rfl) ?_
   refine e_q 13 rfl (wn_some rfl rfl rfl hb2 rfl) (op_lda (L := rootC _) 0 ag_24 rfl rfl (rootC_take' _) (by simp [rootC_len])) ?_
   refine e_q 14 rfl (wn_some rfl rfl rfl hb2 rfl) (op_build (L := voteC _) (vs := [(1, .int _ _), (2, .agg (rootC _).toArray)]) bB_84 rfl ⟨⟨rfl, by rw [voteC_len]; rfl⟩, ⟨by simp [Value.cells, rootC_len], by rw [voteC_len]; rfl⟩, trivial⟩ ((voteC_b1 _ _ _).trans ((voteC_b2 _ _ _).trans rfl))) ?_
   refine Z5z ?_
   refine ei_i rfl rfl (wn_some rfl rfl rfl hb2 rfl) (os_pull3 (os_pull3 (os_pull3 (os_pull3 (os_call cb_43 rfl (fun w s => BTake_calls (u := ⟨0, 1, nameR 1⟩) _ _ _ _ _ _ _ _ _ _ _ _ _ _ _ _ _ _ _ _  s rfl hsk (rds_row 3 rfl rfl))))))) rfl ?_; rintro _ _ ⟨rfl, rfl⟩; rw [hh3]; (try dsimp only); refine ⟨[_, _, _, _], rfl, ?_⟩
   refine e_q 16 rfl (wn_some rfl rfl rfl hb2 rfl) (op_eq rfl rfl) ?_
   refine e_q 17 rfl (wn_none rfl) (op_pick_t (v := .bool _) rfl hb2 rfl) ?_
   refine e_q 18 rfl (wn_none rfl) (op_move (v := .bool _) rfl) ?_
   refine et_split 31 rfl (fun hb3 => ?_) (fun hb3 => ?_)
   ·have hp3 := hb3
    (try simp only [bn] at hp3)
    refine e_q 19 rfl (wn_some rfl rfl rfl hb3 rfl) (op_move (v := .pointer _) rfl) ?_
    refine e_q 20 rfl (wn_some rfl rfl rfl hb3 rfl) (op_lda (L := rootC _) 0 ag_24 rfl rfl (rootC_take' _) (by simp [rootC_len])) ?_
    refine e_q 21 rfl (wn_some rfl rfl rfl hb3 rfl) (op_build (L := voteC _) (vs := [(1, .int _ _), (2, .agg (rootC _).toArray)]) bB_84 rfl ⟨⟨rfl, by rw [voteC_len]; rfl⟩, ⟨by simp [Value.cells, rootC_len], by rw [voteC_len]; rfl⟩, trivial⟩ ((voteC_b1 _ _ _).trans ((voteC_b2 _ _ _).trans rfl))) ?_
    refine et_1 (i := 22) (by kernel_rfl) ?_
    refine ei_i rfl rfl (wn_some rfl rfl rfl hb3 rfl) (os_pull3 (os_pull3 (os_pull3 (os_pull3 (os_call cb_43 rfl (fun w s => BTake_calls (u := ⟨0, 2, nameR 1⟩) _ _ _ _ _ _ _ _ _ _ _ _ _ _ _ _ _ _ _ _  s rfl hsk (rds_row 3 rfl rfl))))))) rfl ?_; rintro _ _ ⟨rfl, rfl⟩; rw [hh4]; refine ⟨[_, _, _, _], rfl, ?_⟩
    refine e_q 23 rfl (wn_some rfl rfl rfl hb3 rfl) (op_eq rfl rfl) ?_
    refine e_q 24 rfl (wn_none rfl) (op_pick_t (v := .bool _) rfl hb3 rfl) ?_
    refine e_q 25 rfl (wn_none rfl) (op_move (v := .bool _) rfl) ?_
    refine et_split 38 rfl (fun hb4 => ?_) (fun hb4 => ?_)
    ·have hp4 := hb4
     (try simp only [bn] at hp4)
     refine e_q 26 rfl (wn_some rfl rfl rfl hb4 rfl) (op_move (v := .pointer _) rfl) ?_
     refine e_q 27 rfl (wn_some rfl rfl rfl hb4 rfl) (op_lda (L := rootC _) 1 ag_24 rfl rfl (rootC_take' _) (by simp [rootC_len])) ?_
     refine et_1 (i := 28) (by kernel_rfl) ?_
     refine ei_i rfl rfl (wn_some rfl rfl rfl hb4 rfl) (os_back (os_pull2 (os_pull2 (os_pull2 (os_call cb_37 rfl (fun w s => BWeight_calls _ _ _ _ _ _ _ _ _ _ _ _ _ _ _ _ _ _ _ _ _  s ))))) (fun _ s => s)) rfl ?_; rintro _ _ ⟨rfl, rfl⟩; rw [hh5]; refine ⟨[_, _, _, _], rfl, ?_⟩
     refine e_q 29 rfl (wn_some rfl rfl rfl hb4 rfl) (op_eq rfl rfl) ?_
     refine e_q 30 rfl (wn_none rfl) (op_pick_t (v := .bool _) rfl hb4 rfl) ?_
     refine e_q 31 rfl (wn_none rfl) (op_move (v := .bool _) rfl) ?_
     refine et_split 44 rfl (fun hb5 => ?_) (fun hb5 => ?_)
     ·have hp5 := hb5
      (try simp only [bn] at hp5)
      refine e_q 32 rfl (wn_some rfl rfl rfl hb5 rfl) (op_move (v := .pointer _) rfl) ?_
      refine e_q 34 rfl (wn_some rfl rfl rfl hb5 rfl) (op_lda (L := rootC _) 0 ag_24 rfl rfl (rootC_take' _) (by simp [rootC_len])) ?_
      refine et_1 (i := 33) (by kernel_rfl) ?_
      refine ei_i rfl rfl (wn_some rfl rfl rfl hb5 rfl) (os_back (os_pull2 (os_pull2 (os_pull2 (os_call cb_38 rfl (fun w s => BHead_calls _ _ _ _ _ _ _ _ _ _ _ _ _ _ _ _ _ _ _ _  s (Nat.le_of_eq (ownE_len _ _ _)) hq2))))) (fun _ s => s)) rfl ?_; rintro _ _ ⟨rfl, rfl⟩; rw [hh6]; refine ⟨[_, _, _, _], rfl, ?_⟩
      refine e_q 35 rfl (wn_some rfl rfl rfl hb5 rfl) (op_eqroot _ _ rB_24 rfl rfl) ?_
      refine e_q 36 rfl (wn_none rfl) (op_pick_t (v := .bool _) rfl hb5 rfl) ?_
      refine e_q 37 rfl (wn_none rfl) (op_assign (v := .bool _) rfl) ?_
      refine Z1t ?_
      exact px_ret1 rfl (v := .bool _) rfl (fun _ s => ((((((((s.del 7).del 6).del 5).del 4).del 3).del 2).del 1).del 0)) ⟨congrArg Value.bool (by first | rfl | simp), rfl⟩
     have hp5 := hb5
     (try simp only [bn] at hp5)
     exact absurd hb5 (by simp)
    have hp4 := hb4
    (try simp only [bn] at hp4)
    exact absurd hb4 (by simp)
   have hp3 := hb3
   (try simp only [bn] at hp3)
   exact absurd hb3 (by simp)
  have hp2 := hb2
  (try simp only [bn] at hp2)
  exact absurd hb2 (by simp)
 have hp1 := hb1
 (try simp only [bn] at hp1)
 exact absurd hb1 (by simp)
end Go.SL

set_option linter.unusedVariables false
set_option linter.unusedSimpArgs false
namespace Go.SL
open Go.Proofs

set_option maxRecDepth 100000 in
set_option maxHeartbeats 1000000 in
theorem VotesUnknown_calls {w0 w : World} {l : List HProp} (ao : Option Addr) (c : Nat) (xs : List Val) (n1 n2 n3 n4 n5 n6 n7 n8 n9 n10 n11 : Int) (lo : Option Addr) (lc : Nat) (acts : List VAct) (odd : Root) (hs : Sat w0 w (l)) (hr : Rds w0 l encVal ao xs) (hqv : ∀ y ∈ xs, I64 y.stake ∧ y.key.length ≤ maxLen) (hra : Rds w0 l encVAct lo acts) (hqa : ∀ a ∈ acts, I64 a.kind ∧ I64 a.root ∧ I64 a.parent ∧ I64 a.slot ∧ I64 a.who) :
  Calls Try.prog 11 #[.agg (cfgC ⟨⟨ao, xs.length, c⟩, n1, n2, n3, n4, n5, n6, n7, n8, n9, n10, n11⟩).toArray, .slice lo acts.length lc, .agg (rootC odd).toArray] w (Ret w0 fun v l' => v = .bool true ∧ l' = l) := by
 refine calls_enter Try.func11 rfl rfl rfl hs ?_
 refine Zj ?_; intro bx1
 refine Z2f ?_; intro bx2
 refine Zb ?_
 refine Z15 ?_
 refine oi (os_call cb_33 rfl (fun w s => vAlive_calls  s )) ?_; rintro _ _ ⟨rfl, rfl⟩
 refine Z3e ?_
 refine Z2c ?_
 refine Z0 ?_
 refine Za4 ?_
 refine Zm ?_
 refine oi (os_call cb_34 rfl (fun w s => vbegun_calls _ _ _ _ _ _ _ _ _ _ _ _ _ _  _ _ acts _ s ((hr.cons _).cons _) hqv (by decide))) ?_; rintro _ l2 (⟨hbad1, rfl, hl2⟩ | ⟨hgc1, hmo1, pb1, pt1, pw1, pv1, pm1, pr1, pq1, rfl, rfl⟩)
 ·rw [hl2]
  refine Z38 ?_
  refine Z5l ?_
  refine Z5l ?_
  refine Z52 ?_
  refine Zc ?_
  refine Z4u ?_
  refine Z3v ?_
  refine Z2b ?_
  refine Z0 ?_
  refine Zv ?_
  exact px_ret1 rfl (v := .bool _) rfl (fun _ s => ((s.del 1).del 0)) ⟨congrArg Value.bool (by first | rfl | simp), rfl⟩
 generalize hG : (shaM ([116, 111, 108, 108, 101, 114] ++ bytesC ⟨⟨ao, xs.length, c⟩, n1, n2, n3, n4, n5, n6, n7, n8, n9, n10, n11⟩ xs)) = gg
 refine Z38 ?_
 refine Z5l ?_
 refine Z5l ?_
 refine Z52 ?_
 refine Zc ?_
 refine Z4u ?_
 refine Z3v ?_
 refine Z3a ?_
 refine Zn ?_
 have hbd := goodC_bd hgc1
 (try dsimp only at hbd)
 have hxl := hbd.2.2.1.2
 have hk := hbd.2.2.2
 have hsk := goodC_stk hgc1
 have hO0 : OKB xs.length (newB gg n3 xs.length n1) := OKB.new (by omega) (by omega) hxl (by omega) (by omega)
 refine Z0 ?_
 refine Zm ?_
 refine oq (op_len_slice Try.underlying66 rfl) ?_
 refine Z1l ?_
 refine cd_pull6 ?_
 refine cd_pull6 ?_
 refine cd_pull6 ?_
 refine cd_pull6 ?_
 refine cd_pull6 ?_
 refine cd_pull6 ?_
 refine cd_pull6 ?_
 refine cd_loop2 (α := Nat × Nat × Nat × Nat) [(6, 6), (11, 15), (29, 98)] (fun x => [(29, .int .i64 (x.1 : Int))]) (fun x => Blk pb1 (.cells #[.slice ao xs.length c, .int .i64 n1, .int .i64 n2, .int .i64 n3, .int .i64 n4, .int .i64 n5, .int .i64 n6, .int .i64 n7, .int .i64 n8, .int .i64 n9, .int .i64 n10, .int .i64 n11, .pointer (some ⟨x.2.1, 0, none⟩), .pointer (some ⟨x.2.2.1, 0, none⟩), .pointer (some ⟨pv1, 0, none⟩)] 131 (0, 0)) :: TreeObj x.2.1 (runB (newB gg n3 xs.length n1) gg (acts.take x.1)).t :: WObj x.2.2.1 x.2.1 (runB (newB gg n3 xs.length n1) gg (acts.take x.1)).t.nodes (ownE xs (effT (runB (newB gg n3 xs.length n1) gg (acts.take x.1)).tb) (runB (newB gg n3 xs.length n1) gg (acts.take x.1)).t.nodes) :: TabObj pv1 (runB (newB gg n3 xs.length n1) gg (acts.take x.1)).tb :: Blk pm1 (.cells #[.slice ao xs.length c, .int .i64 n1, .int .i64 n2, .int .i64 n3, .int .i64 n4, .int .i64 n5, .int .i64 n6, .int .i64 n7, .int .i64 n8, .int .i64 n9, .int .i64 n10, .int .i64 n11, .pointer (some ⟨x.2.2.2, 0, none⟩), .pointer (some ⟨pq1, 0, none⟩)] 127 (0, 0)) :: RTreeObj x.2.2.2 (runB (newB gg n3 xs.length n1) gg (acts.take x.1)).t :: RTabObj pq1 (runB (newB gg n3 xs.length n1) gg (acts.take x.1)).tb :: _) (fun x => x.1 ≤ acts.length) (fun x => acts.length - x.1) (0, pt1, pw1, pr1) (Nat.zero_le _) ⟨rfl, trivial⟩ (fun _ s => by (try dsimp only); rw [List.take_zero]; exact s) ?_
 rintro ⟨i, qt, qw, qr⟩ hi f; (try dsimp only at hi ⊢)
 have hO := hO0.run (g := gg) (acts.take i)
 have hw := hO.wf
 have htw := hO.tw
 have hln := hO.ln
 have hN1 := hw.le
 have hN2 := hw.m2
 have hN0 := hw.ne
 have hrl := roots_len (runB (newB gg n3 xs.length n1) gg (acts.take i)).t
 refine Zx ?_
 refine cd_cond rfl (fun hb1 => ?_) (fun hb1 => ?_)
 ·have hp1 := hb1
  (try simp only [bn] at hp1)
  have hi1 : i < acts.length := by omega
  have hO2 := hO0.run (g := gg) (acts.take (i + 1))
  have hw2 := hO2.wf
  have htw2 := hO2.tw
  have hln2 := hO2.ln
  have hN12 := hw2.le
  have hN22 := hw2.m2
  have hN02 := hw2.ne
  have hrl2 := roots_len (runB (newB gg n3 xs.length n1) gg (acts.take (i + 1))).t
  refine Z33 ?_
  refine oq (op_index i sB_66 rfl rfl rfl (((((((((hra.cons _).cons _).cons _).cons _).cons _).cons _).cons _).cons _).cons _) rfl (by omega)) ?_
  refine oq (op_ldaw (L := vActC _) ag_72 (((((((((hra.cons _).cons _).cons _).cons _).cons _).cons _).cons _).cons _).cons _) rfl (by omega) rfl (vActC_ta _)) ?_
  refine oi (os_alloc (cs := (vActC VAct.zero).toArray) zB_72 (by kernel_rfl)) ?_; rintro _ _ ⟨bx3, rfl, rfl⟩
  refine oN (os_storew (vActC _) ag_72 rfl rfl (vActC_len _) (vActC_one _) (by simp [vActC_len]) (Free.zero _)) ?_; rintro _ _ ⟨rfl, rfl⟩
  refine Z1 ?_
  refine Z3i ?_
  refine oq (op_lda (L := vActC _) 0 ag_72 rfl rfl (vActC_ta _) (by simp [vActC_len])) ?_
  refine ol_pull7 ?_
  refine ol_pull7 ?_
  refine ol_pull7 ?_
  refine ol_pull7 ?_
  refine ol_pull7 ?_
  refine ol_pull7 ?_
  refine ol_pull7 ?_
  refine oi (os_call cb_35 rfl (fun w s => vdo_calls _ _ _ _ _ _ _ _ _ _ _ _ _ _ _ _ _ _ _ _ _ _ _ _ _  s hln hsk hxl hk (((hr.cons _).cons _).cons _) (hqa acts[i] (List.getElem_mem _)).2.2.2.1.2 hG)) ?_; rintro _ _ ⟨qt2, qw2, qr2, rfl, rfl⟩; rw [← show (runB (newB gg n3 xs.length n1) gg (acts.take (i + 1))) = stepB gg ⟨(runB (newB gg n3 xs.length n1) gg (acts.take i)).t, (runB (newB gg n3 xs.length n1) gg (acts.take i)).tb⟩ acts[i] from runB_succ hi1]
  refine Z1 ?_
  refine Zg ?_
  refine Zs ?_
  refine Zs ?_
  refine Zs ?_
  refine oi (os_call cb_38 rfl (fun w s => BHead_calls _ _ _ _ _ _ _ _ _ _ _ _ _ _ _ _ _ _ _ _  s (Nat.le_of_eq (ownE_len _ _ _)) (by rw [ownE_len]; exact hN02))) ?_; rintro _ _ ⟨rfl, rfl⟩
  refine Z1p ?_
  refine oi (os_call cb_39 rfl (fun w s => BTable_calls _ _ _ _ _ _ _ _ _ _ _ _ _ _ _ _ _ _  s )) ?_; rintro _ _ ⟨rfl, rfl⟩
  refine Zl ?_
  refine oi (os_call cb_42 rfl (fun w s => Marks_calls _ _  s )) ?_; rintro _ _ ⟨rfl, rfl⟩
  refine Z1w ?_; intro bx4
  refine Z4h ?_
  refine Z8 ?_
  refine Z7 ?_
  refine Z7 ?_
  refine cd_drawt (M := []) mx [1, 3] 13 (by kernel_rfl) rfl rfl ?_
  dsimp only [List.take_succ_cons, List.take_zero, List.drop_succ_cons, List.drop_zero]
  refine Zd ?_
  refine rg_i (wn_none rfl) (os_back (os_pull2 (os_call cb_36 rfl (fun w s => BTree_calls _ _ _ _ _ _ _ _ _ _ _ _ _ _ _ _ _ _  s ))) (fun _ s => (((((((((((s.pull 10).pull 10).pull 10).pull 10).pull 10).pull 10).pull 10).pull 10).pull 8).pull 10).pull 10))) rfl rfl ?_; rintro _ _ ⟨rfl, rfl⟩; refine ⟨[], rfl, ?_⟩
  refine rg_q (wn_none rfl) (op_lda (L := rootC _) 9 ag_24 rfl rfl (rootC_take' _) (by simp [rootC_len])) rfl rfl ?_
  refine rg_i (wn_none rfl) (os_back (os_pull3 (os_call cb_31 rfl (fun w s => Place_calls _ _ _  s ))) (fun _ s => (((((((((((s.pull 10).pull 10).pull 10).pull 10).pull 10).pull 10).pull 10).pull 7).pull 10).pull 10).pull 10))) rfl rfl ?_; rintro _ _ ⟨rfl, rfl⟩; refine ⟨[], rfl, ?_⟩
  refine Z53 ?_
  refine Z4k ?_
  refine rg_split 47 rfl (fun hb2 => ?_) (fun hb2 => ?_)
  ·have hp2 := hb2
   (try simp only [bn] at hp2)
   have hunA : ∀ u : Vote, u.target = odd → BookS.take ⟨(runB (newB gg n3 xs.length n1) gg (acts.take (i + 1))).t, (runB (newB gg n3 xs.length n1) gg (acts.take (i + 1))).tb⟩ u = (6, (runB (newB gg n3 xs.length n1) gg (acts.take (i + 1))).tb) := fun u hu => btake_unk (unk_none (by rw [hu]; exact TreeS.place_none (by simpa using hb2)))
   refine rg_q (wn_some rfl rfl rfl hb2 rfl) (op_move (v := .pointer _) rfl) rfl rfl ?_
   refine rg_q (wn_some rfl rfl rfl hb2 rfl) (op_field fld_72_4 rfl) rfl rfl ?_
   refine rg_q (wn_some rfl rfl rfl hb2 rfl) (op_ld 8 sc_3 rfl rfl (vActC_a4 _)) rfl rfl ?_
   refine rg_q (wn_some rfl rfl rfl hb2 rfl) (op_field fld_72_3 rfl) rfl rfl ?_
   refine rg_q (wn_some rfl rfl rfl hb2 rfl) (op_ld 8 sc_3 rfl rfl (vActC_a3 _)) rfl rfl ?_
   refine rg_q (wn_some rfl rfl rfl hb2 rfl) (op_lda (L := rootC _) 9 ag_24 rfl rfl (rootC_take' _) (by simp [rootC_len])) rfl rfl ?_
   refine rg_q (wn_some rfl rfl rfl hb2 rfl) (op_build (L := voteC _) (vs := [(0, .int _ _), (1, .int _ _), (2, .agg (rootC _).toArray)]) bB_84 rfl ⟨⟨rfl, by rw [voteC_len]; rfl⟩, ⟨rfl, by rw [voteC_len]; rfl⟩, ⟨by simp [Value.cells, rootC_len], by rw [voteC_len]; rfl⟩, trivial⟩ ((voteC_b0 _ _ _).trans ((voteC_b1 _ _ _).trans ((voteC_b2 _ _ _).trans rfl)))) rfl rfl ?_
   refine rg_tail0 ?_
   refine Z9 ?_
   refine ol_pull4 ?_
   refine ol_pull4 ?_
   refine ol_pull4 ?_
   refine ol_i (wn_some rfl rfl rfl hb2 rfl) (os_call cb_43 rfl (fun w s => BTake_calls _ _ _ _ _ _ _ _ _ _ _ _ _ _ _ _ _ _ _ _ _  s hln2 hsk (((((((hr.cons _).cons _).cons _).cons _).cons _).cons _).cons _))) rfl ?_; rintro _ _ ⟨rfl, rfl⟩; rw [hunA]; rotate_left; rfl
   (try dsimp only)
   refine ol_q (wn_some rfl rfl rfl hb2 rfl) (op_ne rfl rfl) rfl ?_
   refine Z37 ?_
   refine Z1 ?_
   refine cd_cond rfl (fun hb3 => ?_) (fun hb3 => ?_)
   ·have hp3 := hb3
    (try simp only [bn] at hp3)
    exact absurd hb3 (by decide)
   have hp3 := hb3
   (try simp only [bn] at hp3)
   refine Za ?_
   refine Z1q ?_
   refine Zad ?_
   refine Z1p ?_
   refine Zad ?_
   refine Z9 ?_
   refine Z9m ?_
   refine Z2m ?_
   refine oi (os_call cb_24 rfl (fun w s => Node_calls _ _ _  s )) ?_; rintro _ _ ⟨rfl, rfl⟩; rw [show (((runB (newB gg n3 xs.length n1) gg (acts.take (i + 1))).t.nodes.length : Nat) : Int) - 1 = ((((runB (newB gg n3 xs.length n1) gg (acts.take (i + 1))).t.nodes.length - 1) : Nat) : Int) by omega, TreeS.node_at]
   refine Z3r ?_
   refine Z3k ?_; intro bx5
   refine Z4a ?_
   have hsl := hw2.sl _ (List.getElem_mem (show ((runB (newB gg n3 xs.length n1) gg (acts.take (i + 1))).t.nodes.length - 1) < (runB (newB gg n3 xs.length n1) gg (acts.take (i + 1))).t.nodes.length by omega))
   have hsv := slA_get (show ((runB (newB gg n3 xs.length n1) gg (acts.take (i + 1))).t.nodes.length - 1) < (runB (newB gg n3 xs.length n1) gg (acts.take (i + 1))).t.nodes.length by omega)
   rw [← hsv] at hsl
   refine Z0 ?_
   refine Z5 ?_
   refine Z5 ?_
   refine ol_split 69 rfl (fun hb4 => ?_) (fun hb4 => ?_)
   ·have hp4 := hb4
    (try simp only [bn] at hp4)
    refine ol_q (wn_some rfl rfl rfl hb4 rfl) (op_field fld_51_1 rfl) rfl ?_
    refine ol_q (wn_some rfl rfl rfl hb4 rfl) (op_ld 0 sc_3 rfl rfl (show (nodeC _).toArray[32]? = some (.int .i64 (slA (runB (newB gg n3 xs.length n1) gg (acts.take (i + 1))).t.nodes ((runB (newB gg n3 xs.length n1) gg (acts.take (i + 1))).t.nodes.length - 1))) from nodeC_a32 _)) rfl ?_
    refine ol_q (wn_some rfl rfl rfl hb4 rfl) (op_gt rfl rfl) rfl ?_
    refine oq (op_pick_t (v := .bool _) rfl hb4 rfl) ?_
    refine Z5 ?_
    refine ol_split 74 rfl (fun hb5 => ?_) (fun hb5 => ?_)
    ·have hp5 := hb5
     (try simp only [bn] at hp5)
     have hun2 : unkB (runB (newB gg n3 xs.length n1) gg (acts.take (i + 1))).t ⟨(acts[i]'hi1).who, slA (runB (newB gg n3 xs.length n1) gg (acts.take (i + 1))).t.nodes ((runB (newB gg n3 xs.length n1) gg (acts.take (i + 1))).t.nodes.length - 1) - 1, rtA (runB (newB gg n3 xs.length n1) gg (acts.take (i + 1))).t.nodes ((runB (newB gg n3 xs.length n1) gg (acts.take (i + 1))).t.nodes.length - 1)⟩ = true := by rw [unk_some (idx_rt hw2 (show ((runB (newB gg n3 xs.length n1) gg (acts.take (i + 1))).t.nodes.length - 1) < (runB (newB gg n3 xs.length n1) gg (acts.take (i + 1))).t.nodes.length by omega))]; exact decide_eq_true (by show slA _ _ - 1 < slA _ _; omega)
     refine ol_q (wn_some rfl rfl rfl hb5 rfl) (op_move (v := .pointer _) rfl) rfl ?_
     refine ol_q (wn_some rfl rfl rfl hb5 rfl) (op_field fld_72_4 rfl) rfl ?_
     refine ol_q (wn_some rfl rfl rfl hb5 rfl) (op_ld 9 sc_3 rfl rfl (vActC_a4 _)) rfl ?_
     refine ol_q (wn_some rfl rfl rfl hb5 rfl) (op_field fld_51_1 rfl) rfl ?_
     refine ol_q (wn_some rfl rfl rfl hb5 rfl) (op_ld 0 sc_3 rfl rfl (show (nodeC _).toArray[32]? = some (.int .i64 (slA (runB (newB gg n3 xs.length n1) gg (acts.take (i + 1))).t.nodes ((runB (newB gg n3 xs.length n1) gg (acts.take (i + 1))).t.nodes.length - 1))) from nodeC_a32 _)) rfl ?_
     refine ol_q (wn_some rfl rfl rfl hb5 rfl) (op_sub rfl rfl (by omega) (by omega)) rfl ?_
     refine ol_q (wn_some rfl rfl rfl hb5 rfl) (op_field fld_51_0 rfl) rfl ?_
     refine ol_q (wn_some rfl rfl rfl hb5 rfl) (op_lda (L := rootC _) 0 ag_24 rfl rfl (nodeC_af0 _) (by simp [nodeC_len])) rfl ?_
     refine ol_q (wn_some rfl rfl rfl hb5 rfl) (op_build (L := voteC _) (vs := [(0, .int _ _), (1, .int _ _), (2, .agg (rootC _).toArray)]) bB_84 rfl ⟨⟨rfl, by rw [voteC_len]; rfl⟩, ⟨rfl, by rw [voteC_len]; rfl⟩, ⟨by simp [Value.cells, rootC_len], by rw [voteC_len]; rfl⟩, trivial⟩ ((voteC_b0 _ _ _).trans ((voteC_b1 _ _ _).trans ((voteC_b2 _ _ _).trans rfl)))) rfl ?_
     refine ol_pull4 ?_
     refine ol_pull4 ?_
     refine Zl ?_
     refine ol_pull4 ?_
     refine ol_i (wn_some rfl rfl rfl hb5 rfl) (os_call cb_43 rfl (fun w s => BTake_calls (u := ⟨(acts[i]'hi1).who, slA (runB (newB gg n3 xs.length n1) gg (acts.take (i + 1))).t.nodes ((runB (newB gg n3 xs.length n1) gg (acts.take (i + 1))).t.nodes.length - 1) - 1, rtA (runB (newB gg n3 xs.length n1) gg (acts.take (i + 1))).t.nodes ((runB (newB gg n3 xs.length n1) gg (acts.take (i + 1))).t.nodes.length - 1)⟩) _ _ _ _ _ _ _ _ _ _ _ _ _ _ _ _ _ _ _ _  s hln2 hsk ((((((((hr.cons _).cons _).cons _).cons _).cons _).cons _).cons _).cons _))) rfl ?_; rintro _ _ ⟨rfl, rfl⟩; rw [btake_unk hun2]; (try dsimp only)
     refine ol_q (wn_some rfl rfl rfl hb5 rfl) (op_ne rfl rfl) rfl ?_
     refine oq (op_pick_t (v := .bool _) rfl hb5 rfl) ?_
     refine Z1 ?_
     refine cd_cond rfl (fun hb6 => ?_) (fun hb6 => ?_)
     ·have hp6 := hb6
      (try simp only [bn] at hp6)
      exact absurd hb6 (by decide)
     have hp6 := hb6
     (try simp only [bn] at hp6)
     refine Z8d ?_
     refine Z22 ?_
     refine Zae ?_
     refine Z3f ?_
     refine Zcm ?_
     refine Z8c ?_
     refine Z6l ?_
     refine et_split 91 rfl (fun hb7 => ?_) (fun hb7 => ?_)
     ·have hp7 := hb7
      (try simp only [bn] at hp7)
      exact absurd hb7 (by simp)
     have hp7 := hb7
     (try simp only [bn] at hp7)
     refine e_q 5 rfl (wn_some rfl rfl rfl hb7 rfl) (op_move (v := .pointer _) rfl) ?_
     refine e_q 8 rfl (wn_some rfl rfl rfl hb7 rfl) (op_move (v := .int _ _) rfl) ?_
     refine Z14 ?_
     refine ei_i rfl rfl (wn_some rfl rfl rfl hb7 rfl) (os_call cb_39 rfl (fun w s => BTable_calls _ _ _ _ _ _ _ _ _ _ _ _ _ _ _ _ _ _  s )) rfl ?_; rintro _ _ ⟨rfl, rfl⟩; refine ⟨[], rfl, ?_⟩
     refine Zt ?_
     refine ei_i rfl rfl (wn_some rfl rfl rfl hb7 rfl) (os_back (os_pull3 (os_call cb_42 rfl (fun w s => Marks_calls _ _  s ))) (fun _ s => (s.push 3))) rfl ?_; rintro _ _ ⟨rfl, rfl⟩; refine ⟨[], rfl, ?_⟩
     refine e_q 9 rfl (wn_some rfl rfl rfl hb7 rfl) (op_ne rfl rfl) ?_
     refine e_q 10 rfl (wn_none rfl) (op_pick_f (v := .bool _) rfl hb7 rfl) ?_
     refine Z16 ?_
     refine cd_cond rfl (fun hb8 => ?_) (fun hb8 => ?_)
     ·have hp8 := hb8
      (try simp only [bn] at hp8)
      exact absurd hb8 (by simp)
     have hp8 := hb8
     (try simp only [bn] at hp8)
     refine Z34 ?_
     refine Zcn ?_
     exact Z2
    have hp5 := hb5
    (try simp only [bn] at hp5)
    refine Z2z ?_
    refine Z2z ?_
    refine Z2z ?_
    refine Z2z ?_
    refine Z2z ?_
    refine Z2z ?_
    refine Z2z ?_
    refine Z2z ?_
    refine Z2z ?_
    refine Z2z ?_
    refine Z2z ?_
    refine oq (op_pick_f (v := .bool _) rfl hb5 rfl) ?_
    refine Z3a ?_
    refine Z8d ?_
    refine Z22 ?_
    refine Zae ?_
    refine Z3f ?_
    refine Zco ?_
    refine Z8c ?_
    refine Z6l ?_
    refine et_split 91 rfl (fun hb9 => ?_) (fun hb9 => ?_)
    ·have hp9 := hb9
     (try simp only [bn] at hp9)
     exact absurd hb9 (by simp)
    have hp9 := hb9
    (try simp only [bn] at hp9)
    refine e_q 5 rfl (wn_some rfl rfl rfl hb9 rfl) (op_move (v := .pointer _) rfl) ?_
    refine e_q 8 rfl (wn_some rfl rfl rfl hb9 rfl) (op_move (v := .int _ _) rfl) ?_
    refine Z14 ?_
    refine ei_i rfl rfl (wn_some rfl rfl rfl hb9 rfl) (os_back (os_pull2 (os_call cb_39 rfl (fun w s => BTable_calls _ _ _ _ _ _ _ _ _ _ _ _ _ _ _ _ _ _  s ))) (fun _ s => (s.push 2))) rfl ?_; rintro _ _ ⟨rfl, rfl⟩; refine ⟨[], rfl, ?_⟩
    refine Zt ?_
    refine ei_i rfl rfl (wn_some rfl rfl rfl hb9 rfl) (os_back (os_pull4 (os_call cb_42 rfl (fun w s => Marks_calls _ _  s ))) (fun _ s => (s.push 4))) rfl ?_; rintro _ _ ⟨rfl, rfl⟩; refine ⟨[], rfl, ?_⟩
    refine e_q 9 rfl (wn_some rfl rfl rfl hb9 rfl) (op_ne rfl rfl) ?_
    refine e_q 10 rfl (wn_none rfl) (op_pick_f (v := .bool _) rfl hb9 rfl) ?_
    refine Z16 ?_
    refine cd_cond rfl (fun hb10 => ?_) (fun hb10 => ?_)
    ·have hp10 := hb10
     (try simp only [bn] at hp10)
     exact absurd hb10 (by simp)
    have hp10 := hb10
    (try simp only [bn] at hp10)
    refine Z34 ?_
    refine px_pull11 ?_
    refine px_pull11 ?_
    refine px_pull10 ?_
    refine px_pull10 ?_
    refine px_pull10 ?_
    refine px_pull9 ?_
    refine px_pull9 ?_
    refine px_pull8 ?_
    refine px_pull9 ?_
    refine Zaf ?_
    exact Z2
   have hp4 := hb4
   (try simp only [bn] at hp4)
   refine ol_skip (wn_some rfl rfl rfl hb4 rfl) rfl ?_
   refine ol_skip (wn_some rfl rfl rfl hb4 rfl) rfl ?_
   refine ol_skip (wn_some rfl rfl rfl hb4 rfl) rfl ?_
   refine oq (op_pick_f (v := .bool _) rfl hb4 rfl) ?_
   refine Z5p ?_
   refine Z49 ?_
   refine Z49 ?_
   refine Z49 ?_
   refine Z49 ?_
   refine Z6s ?_
   refine Z6v ?_
   refine Z3a ?_
   refine Z8d ?_
   refine Z22 ?_
   refine Zae ?_
   refine Z3f ?_
   refine Zco ?_
   refine Z8c ?_
   refine Z6l ?_
   refine et_split 91 rfl (fun hb11 => ?_) (fun hb11 => ?_)
   ·have hp11 := hb11
    (try simp only [bn] at hp11)
    exact absurd hb11 (by simp)
   have hp11 := hb11
   (try simp only [bn] at hp11)
   refine e_q 5 rfl (wn_some rfl rfl rfl hb11 rfl) (op_move (v := .pointer _) rfl) ?_
   refine e_q 8 rfl (wn_some rfl rfl rfl hb11 rfl) (op_move (v := .int _ _) rfl) ?_
   refine Z14 ?_
   refine ei_i rfl rfl (wn_some rfl rfl rfl hb11 rfl) (os_back (os_pull2 (os_call cb_39 rfl (fun w s => BTable_calls _ _ _ _ _ _ _ _ _ _ _ _ _ _ _ _ _ _  s ))) (fun _ s => (s.push 2))) rfl ?_; rintro _ _ ⟨rfl, rfl⟩; refine ⟨[], rfl, ?_⟩
   refine Zt ?_
   refine ei_i rfl rfl (wn_some rfl rfl rfl hb11 rfl) (os_back (os_pull4 (os_call cb_42 rfl (fun w s => Marks_calls _ _  s ))) (fun _ s => (s.push 4))) rfl ?_; rintro _ _ ⟨rfl, rfl⟩; refine ⟨[], rfl, ?_⟩
   refine e_q 9 rfl (wn_some rfl rfl rfl hb11 rfl) (op_ne rfl rfl) ?_
   refine e_q 10 rfl (wn_none rfl) (op_pick_f (v := .bool _) rfl hb11 rfl) ?_
   refine Z16 ?_
   refine cd_cond rfl (fun hb12 => ?_) (fun hb12 => ?_)
   ·have hp12 := hb12
    (try simp only [bn] at hp12)
    exact absurd hb12 (by simp)
   have hp12 := hb12
   (try simp only [bn] at hp12)
   refine Z34 ?_
   refine px_pull11 ?_
   refine px_pull11 ?_
   refine px_pull10 ?_
   refine px_pull10 ?_
   refine px_pull10 ?_
   refine px_pull9 ?_
   refine px_pull9 ?_
   refine px_pull8 ?_
   refine px_pull9 ?_
   refine Zaf ?_
   exact Z2
  have hp2 := hb2
  (try simp only [bn] at hp2)
  refine Z2j ?_
  refine Z2j ?_
  refine Z2j ?_
  refine Z8k ?_
  refine rg_tail0 ?_
  refine Z1g ?_
  refine Z2v ?_
  refine Z2c ?_
  refine Z1q ?_
  refine Zs ?_
  refine Zad ?_
  refine Z1p ?_
  refine Zad ?_
  refine Zl ?_
  refine Z9m ?_
  refine Z2m ?_
  refine oi (os_call cb_24 rfl (fun w s => Node_calls _ _ _  s )) ?_; rintro _ _ ⟨rfl, rfl⟩; rw [show (((runB (newB gg n3 xs.length n1) gg (acts.take (i + 1))).t.nodes.length : Nat) : Int) - 1 = ((((runB (newB gg n3 xs.length n1) gg (acts.take (i + 1))).t.nodes.length - 1) : Nat) : Int) by omega, TreeS.node_at]
  refine Z3r ?_
  refine Z3k ?_; intro bx6
  refine Z4a ?_
  have hsl := hw2.sl _ (List.getElem_mem (show ((runB (newB gg n3 xs.length n1) gg (acts.take (i + 1))).t.nodes.length - 1) < (runB (newB gg n3 xs.length n1) gg (acts.take (i + 1))).t.nodes.length by omega))
  have hsv := slA_get (show ((runB (newB gg n3 xs.length n1) gg (acts.take (i + 1))).t.nodes.length - 1) < (runB (newB gg n3 xs.length n1) gg (acts.take (i + 1))).t.nodes.length by omega)
  rw [← hsv] at hsl
  refine Z0 ?_
  refine Z5 ?_
  refine Z5 ?_
  refine ol_split 69 rfl (fun hb13 => ?_) (fun hb13 => ?_)
  ·have hp13 := hb13
   (try simp only [bn] at hp13)
   refine ol_q (wn_some rfl rfl rfl hb13 rfl) (op_field fld_51_1 rfl) rfl ?_
   refine ol_q (wn_some rfl rfl rfl hb13 rfl) (op_ld 0 sc_3 rfl rfl (show (nodeC _).toArray[32]? = some (.int .i64 (slA (runB (newB gg n3 xs.length n1) gg (acts.take (i + 1))).t.nodes ((runB (newB gg n3 xs.length n1) gg (acts.take (i + 1))).t.nodes.length - 1))) from nodeC_a32 _)) rfl ?_
   refine ol_q (wn_some rfl rfl rfl hb13 rfl) (op_gt rfl rfl) rfl ?_
   refine oq (op_pick_t (v := .bool _) rfl hb13 rfl) ?_
   refine Z5 ?_
   refine ol_split 74 rfl (fun hb14 => ?_) (fun hb14 => ?_)
   ·have hp14 := hb14
    (try simp only [bn] at hp14)
    have hun2 : unkB (runB (newB gg n3 xs.length n1) gg (acts.take (i + 1))).t ⟨(acts[i]'hi1).who, slA (runB (newB gg n3 xs.length n1) gg (acts.take (i + 1))).t.nodes ((runB (newB gg n3 xs.length n1) gg (acts.take (i + 1))).t.nodes.length - 1) - 1, rtA (runB (newB gg n3 xs.length n1) gg (acts.take (i + 1))).t.nodes ((runB (newB gg n3 xs.length n1) gg (acts.take (i + 1))).t.nodes.length - 1)⟩ = true := by rw [unk_some (idx_rt hw2 (show ((runB (newB gg n3 xs.length n1) gg (acts.take (i + 1))).t.nodes.length - 1) < (runB (newB gg n3 xs.length n1) gg (acts.take (i + 1))).t.nodes.length by omega))]; exact decide_eq_true (by show slA _ _ - 1 < slA _ _; omega)
    refine ol_q (wn_some rfl rfl rfl hb14 rfl) (op_move (v := .pointer _) rfl) rfl ?_
    refine ol_q (wn_some rfl rfl rfl hb14 rfl) (op_field fld_72_4 rfl) rfl ?_
    refine ol_q (wn_some rfl rfl rfl hb14 rfl) (op_ld 9 sc_3 rfl rfl (vActC_a4 _)) rfl ?_
    refine ol_q (wn_some rfl rfl rfl hb14 rfl) (op_field fld_51_1 rfl) rfl ?_
    refine ol_q (wn_some rfl rfl rfl hb14 rfl) (op_ld 0 sc_3 rfl rfl (show (nodeC _).toArray[32]? = some (.int .i64 (slA (runB (newB gg n3 xs.length n1) gg (acts.take (i + 1))).t.nodes ((runB (newB gg n3 xs.length n1) gg (acts.take (i + 1))).t.nodes.length - 1))) from nodeC_a32 _)) rfl ?_
    refine ol_q (wn_some rfl rfl rfl hb14 rfl) (op_sub rfl rfl (by omega) (by omega)) rfl ?_
    refine ol_q (wn_some rfl rfl rfl hb14 rfl) (op_field fld_51_0 rfl) rfl ?_
    refine ol_q (wn_some rfl rfl rfl hb14 rfl) (op_lda (L := rootC _) 0 ag_24 rfl rfl (nodeC_af0 _) (by simp [nodeC_len])) rfl ?_
    refine ol_q (wn_some rfl rfl rfl hb14 rfl) (op_build (L := voteC _) (vs := [(0, .int _ _), (1, .int _ _), (2, .agg (rootC _).toArray)]) bB_84 rfl ⟨⟨rfl, by rw [voteC_len]; rfl⟩, ⟨rfl, by rw [voteC_len]; rfl⟩, ⟨by simp [Value.cells, rootC_len], by rw [voteC_len]; rfl⟩, trivial⟩ ((voteC_b0 _ _ _).trans ((voteC_b1 _ _ _).trans ((voteC_b2 _ _ _).trans rfl)))) rfl ?_
    refine ol_pull4 ?_
    refine ol_pull5 ?_
    refine Zl ?_
    refine ol_pull4 ?_
    refine ol_i (wn_some rfl rfl rfl hb14 rfl) (os_call cb_43 rfl (fun w s => BTake_calls (u := ⟨(acts[i]'hi1).who, slA (runB (newB gg n3 xs.length n1) gg (acts.take (i + 1))).t.nodes ((runB (newB gg n3 xs.length n1) gg (acts.take (i + 1))).t.nodes.length - 1) - 1, rtA (runB (newB gg n3 xs.length n1) gg (acts.take (i + 1))).t.nodes ((runB (newB gg n3 xs.length n1) gg (acts.take (i + 1))).t.nodes.length - 1)⟩) _ _ _ _ _ _ _ _ _ _ _ _ _ _ _ _ _ _ _ _  s hln2 hsk ((((((((hr.cons _).cons _).cons _).cons _).cons _).cons _).cons _).cons _))) rfl ?_; rintro _ _ ⟨rfl, rfl⟩; rw [btake_unk hun2]; (try dsimp only)
    refine ol_q (wn_some rfl rfl rfl hb14 rfl) (op_ne rfl rfl) rfl ?_
    refine oq (op_pick_t (v := .bool _) rfl hb14 rfl) ?_
    refine Z1 ?_
    refine cd_cond rfl (fun hb15 => ?_) (fun hb15 => ?_)
    ·have hp15 := hb15
     (try simp only [bn] at hp15)
     exact absurd hb15 (by decide)
    have hp15 := hb15
    (try simp only [bn] at hp15)
    refine Z8d ?_
    refine Z22 ?_
    refine Zae ?_
    refine Z3f ?_
    refine Zcm ?_
    refine Z8c ?_
    refine Z6l ?_
    refine et_split 91 rfl (fun hb16 => ?_) (fun hb16 => ?_)
    ·have hp16 := hb16
     (try simp only [bn] at hp16)
     exact absurd hb16 (by simp)
    have hp16 := hb16
    (try simp only [bn] at hp16)
    refine e_q 5 rfl (wn_some rfl rfl rfl hb16 rfl) (op_move (v := .pointer _) rfl) ?_
    refine e_q 8 rfl (wn_some rfl rfl rfl hb16 rfl) (op_move (v := .int _ _) rfl) ?_
    refine Z14 ?_
    refine ei_i rfl rfl (wn_some rfl rfl rfl hb16 rfl) (os_call cb_39 rfl (fun w s => BTable_calls _ _ _ _ _ _ _ _ _ _ _ _ _ _ _ _ _ _  s )) rfl ?_; rintro _ _ ⟨rfl, rfl⟩; refine ⟨[], rfl, ?_⟩
    refine Zt ?_
    refine ei_i rfl rfl (wn_some rfl rfl rfl hb16 rfl) (os_back (os_pull3 (os_call cb_42 rfl (fun w s => Marks_calls _ _  s ))) (fun _ s => (s.push 3))) rfl ?_; rintro _ _ ⟨rfl, rfl⟩; refine ⟨[], rfl, ?_⟩
    refine e_q 9 rfl (wn_some rfl rfl rfl hb16 rfl) (op_ne rfl rfl) ?_
    refine e_q 10 rfl (wn_none rfl) (op_pick_f (v := .bool _) rfl hb16 rfl) ?_
    refine Z16 ?_
    refine cd_cond rfl (fun hb17 => ?_) (fun hb17 => ?_)
    ·have hp17 := hb17
     (try simp only [bn] at hp17)
     exact absurd hb17 (by simp)
    have hp17 := hb17
    (try simp only [bn] at hp17)
    refine Z34 ?_
    refine Zcn ?_
    exact Z2
   have hp14 := hb14
   (try simp only [bn] at hp14)
   refine Z4o ?_
   refine Z4o ?_
   refine Z4o ?_
   refine Z4o ?_
   refine Z4o ?_
   refine Z4o ?_
   refine Z4o ?_
   refine Z4o ?_
   refine Z4o ?_
   refine Z4o ?_
   refine Z4o ?_
   refine oq (op_pick_f (v := .bool _) rfl hb14 rfl) ?_
   refine Z3a ?_
   refine Z8d ?_
   refine Z22 ?_
   refine e_q 2 rfl (wn_none rfl) (op_lda (L := rootC _) 3 ag_24 rfl rfl (rootC_take' _) (by simp [rootC_len])) ?_
   refine Z3f ?_
   refine Zcp ?_
   refine Z8c ?_
   refine Z6l ?_
   refine et_split 91 rfl (fun hb18 => ?_) (fun hb18 => ?_)
   ·have hp18 := hb18
    (try simp only [bn] at hp18)
    exact absurd hb18 (by simp)
   have hp18 := hb18
   (try simp only [bn] at hp18)
   refine e_q 5 rfl (wn_some rfl rfl rfl hb18 rfl) (op_move (v := .pointer _) rfl) ?_
   refine e_q 8 rfl (wn_some rfl rfl rfl hb18 rfl) (op_move (v := .int _ _) rfl) ?_
   refine Z14 ?_
   refine ei_i rfl rfl (wn_some rfl rfl rfl hb18 rfl) (os_back (os_pull2 (os_call cb_39 rfl (fun w s => BTable_calls _ _ _ _ _ _ _ _ _ _ _ _ _ _ _ _ _ _  s ))) (fun _ s => (s.push 2))) rfl ?_; rintro _ _ ⟨rfl, rfl⟩; refine ⟨[], rfl, ?_⟩
   refine Zt ?_
   refine ei_i rfl rfl (wn_some rfl rfl rfl hb18 rfl) (os_back (os_pull4 (os_call cb_42 rfl (fun w s => Marks_calls _ _  s ))) (fun _ s => (s.push 4))) rfl ?_; rintro _ _ ⟨rfl, rfl⟩; refine ⟨[], rfl, ?_⟩
   refine e_q 9 rfl (wn_some rfl rfl rfl hb18 rfl) (op_ne rfl rfl) ?_
   refine e_q 10 rfl (wn_none rfl) (op_pick_f (v := .bool _) rfl hb18 rfl) ?_
   refine Z16 ?_
   refine cd_cond rfl (fun hb19 => ?_) (fun hb19 => ?_)
   ·have hp19 := hb19
    (try simp only [bn] at hp19)
    exact absurd hb19 (by simp)
   have hp19 := hb19
   (try simp only [bn] at hp19)
   refine Z34 ?_
   refine px_pull11 ?_
   refine px_pull11 ?_
   refine px_pull10 ?_
   refine px_pull10 ?_
   refine px_pull10 ?_
   refine px_pull9 ?_
   refine px_pull10 ?_
   refine px_pull8 ?_
   refine px_pull9 ?_
   refine Zaf ?_
   exact Z2
  have hp13 := hb13
  (try simp only [bn] at hp13)
  refine ol_skip (wn_some rfl rfl rfl hb13 rfl) rfl ?_
  refine ol_skip (wn_some rfl rfl rfl hb13 rfl) rfl ?_
  refine ol_skip (wn_some rfl rfl rfl hb13 rfl) rfl ?_
  refine oq (op_pick_f (v := .bool _) rfl hb13 rfl) ?_
  refine Z5p ?_
  refine Z49 ?_
  refine Z49 ?_
  refine Z49 ?_
  refine Z49 ?_
  refine Z6s ?_
  refine Z6v ?_
  refine Z3a ?_
  refine Z8d ?_
  refine Z22 ?_
  refine e_q 2 rfl (wn_none rfl) (op_lda (L := rootC _) 3 ag_24 rfl rfl (rootC_take' _) (by simp [rootC_len])) ?_
  refine Z3f ?_
  refine Zcp ?_
  refine Z8c ?_
  refine Z6l ?_
  refine et_split 91 rfl (fun hb20 => ?_) (fun hb20 => ?_)
  ·have hp20 := hb20
   (try simp only [bn] at hp20)
   exact absurd hb20 (by simp)
  have hp20 := hb20
  (try simp only [bn] at hp20)
  refine e_q 5 rfl (wn_some rfl rfl rfl hb20 rfl) (op_move (v := .pointer _) rfl) ?_
  refine e_q 8 rfl (wn_some rfl rfl rfl hb20 rfl) (op_move (v := .int _ _) rfl) ?_
  refine Z14 ?_
  refine ei_i rfl rfl (wn_some rfl rfl rfl hb20 rfl) (os_back (os_pull2 (os_call cb_39 rfl (fun w s => BTable_calls _ _ _ _ _ _ _ _ _ _ _ _ _ _ _ _ _ _  s ))) (fun _ s => (s.push 2))) rfl ?_; rintro _ _ ⟨rfl, rfl⟩; refine ⟨[], rfl, ?_⟩
  refine Zt ?_
  refine ei_i rfl rfl (wn_some rfl rfl rfl hb20 rfl) (os_back (os_pull4 (os_call cb_42 rfl (fun w s => Marks_calls _ _  s ))) (fun _ s => (s.push 4))) rfl ?_; rintro _ _ ⟨rfl, rfl⟩; refine ⟨[], rfl, ?_⟩
  refine e_q 9 rfl (wn_some rfl rfl rfl hb20 rfl) (op_ne rfl rfl) ?_
  refine e_q 10 rfl (wn_none rfl) (op_pick_f (v := .bool _) rfl hb20 rfl) ?_
  refine Z16 ?_
  refine cd_cond rfl (fun hb21 => ?_) (fun hb21 => ?_)
  ·have hp21 := hb21
   (try simp only [bn] at hp21)
   exact absurd hb21 (by simp)
  have hp21 := hb21
  (try simp only [bn] at hp21)
  refine Z34 ?_
  refine px_pull11 ?_
  refine px_pull11 ?_
  refine px_pull10 ?_
  refine px_pull10 ?_
  refine px_pull10 ?_
  refine px_pull9 ?_
  refine px_pull10 ?_
  refine px_pull8 ?_
  refine px_pull9 ?_
  refine Zaf ?_
  exact Z2
 have hp1 := hb1
 (try simp only [bn] at hp1)
 refine Z2d ?_
 refine Zk ?_
 exact px_ret1 rfl (v := .bool _) rfl (fun _ s => (((((((((s.del 8).del 7).del 6).del 5).del 4).del 3).del 2).del 1).del 0)) ⟨congrArg Value.bool (by first | rfl | simp), rfl⟩

end Go.SL


import Derived.Test.YtdeemlgkckpedaaLess
import Derived.Test.YtdeemlgkckpedaaTreeR
import Derived.Test.YtdeemlgkckpedaaWei
set_option linter.unusedVariables false
set_option linter.unusedSimpArgs false
namespace Go.SL
open Go.Proofs

/-- the reference's weights: their block and row -/
def RWObj (pm pr : Nat) (o : List Int) : HProp := ex fun x : Option Addr × Nat => match x with | (a4, c4) => stars [Blk pm (.cells #[.pointer (some ⟨pr, 0, none⟩), .slice a4 o.length c4, .int .i64 (o.length : Int)] 47 (0, 0)), Row 3 encI64 (.slice a4 o.length c4) o]
theorem Sat.rwOpen {w0 w : World} {l : List HProp} {pm pr : Nat} {o : List Int} (s : Sat w0 w (RWObj pm pr o :: l)) : ∃ a4 c4, Sat w0 w (Blk pm (.cells #[.pointer (some ⟨pr, 0, none⟩), .slice a4 o.length c4, .int .i64 (o.length : Int)] 47 (0, 0)) :: Row 3 encI64 (.slice a4 o.length c4) o :: l) := by
 obtain ⟨⟨a4, c4⟩, s⟩ := Sat.ex_iff.1 s
 exact ⟨a4, c4, Sat.stars_iff.1 s⟩
theorem Sat.rwMk {w0 w : World} {l : List HProp} {pm pr : Nat} {o : List Int} {a4 : Option Addr} {c4 m1 m2 : Nat} (h1 : m1 = o.length) (h2 : m2 = o.length) (s : Sat w0 w (Blk pm (.cells #[.pointer (some ⟨pr, 0, none⟩), .slice a4 m1 c4, .int .i64 (m2 : Int)] 47 (0, 0)) :: Row 3 encI64 (.slice a4 m1 c4) o :: l)) : Sat w0 w (RWObj pm pr o :: l) := by
 subst h1 h2
 exact Sat.ex_iff.2 ⟨(a4, c4), Sat.stars_iff.2 s⟩

set_option maxRecDepth 100000 in
set_option maxHeartbeats 1000000 in
theorem RplW_calls {w0 w : World} {l : List HProp} (pm pr : Nat) (t : TreeS) (a1 a2 a3 a4 : Option Addr) (c1 c2 c3 c4 : Nat) (R : List Root) (Sl : List Int) (Pa : List Root) (o : List Int) (r : Root) (hs : Sat w0 w ((Blk pr (.cells #[.slice a1 R.length c1, .slice a2 Sl.length c2, .slice a3 Pa.length c3, .int .i64 t.most] 44 (0, 0))) :: (Row 24 encRoot (.slice a1 R.length c1) R) :: (Row 3 encI64 (.slice a2 Sl.length c2) Sl) :: (Row 24 encRoot (.slice a3 Pa.length c3) Pa) :: (Blk pm (.cells #[.pointer (some ⟨pr, 0, none⟩), .slice a4 o.length c4, .int .i64 (o.length : Int)] 47 (0, 0))) :: (Row 3 encI64 (.slice a4 o.length c4) o) :: l)) (hw : t.WF) (hR : RTreeOf t R Sl Pa) (h1 : o.length ≤ t.nodes.length) :
  Calls Try.prog 59 #[.pointer (some ⟨pm, 0, none⟩), .agg (rootC r).toArray] w (Ret w0 fun v l' => v = .int .i64 (rplW t o.length r) ∧ l' = Blk pr (.cells #[.slice a1 R.length c1, .slice a2 Sl.length c2, .slice a3 Pa.length c3, .int .i64 t.most] 44 (0, 0)) :: Row 24 encRoot (.slice a1 R.length c1) R :: Row 3 encI64 (.slice a2 Sl.length c2) Sl :: Row 24 encRoot (.slice a3 Pa.length c3) Pa :: Blk pm (.cells #[.pointer (some ⟨pr, 0, none⟩), .slice a4 o.length c4, .int .i64 (o.length : Int)] 47 (0, 0)) :: Row 3 encI64 (.slice a4 o.length c4) o :: l) := by
 have hle := hw.le; have hm2 := hw.m2; have hpa := hw.pa; have hnd := hw.nd
 have hRl : R.length = t.nodes.length := by rw [hR.r, List.length_map]
 have hSl : Sl.length = t.nodes.length := by rw [hR.s, List.length_map]
 have hPl : Pa.length = t.nodes.length := by rw [hR.p]; unfold parR; rw [List.length_map]
 have hpl : ∀ r, rplace R r = t.place r := fun r => by rw [hR.r, rplace_map]
 refine calls_enter Try.func59 rfl rfl rfl hs ?_
 refine cd_sr ?_
 refine oi (os_boxa rfl) ?_; rintro _ _ ⟨bx1, rfl, rfl⟩
 refine oq (op_assign (v := .int _ _) rfl) ?_
 refine ol_nil_then ?_
 refine cd_seq ?_
 refine cd_draw (M := []) mx [5] (by kernel_rfl) ?_
 refine rg_q (wn_none rfl) (op_move (v := .pointer _) rfl) rfl rfl ?_
 refine rg_q (wn_none rfl) (op_nilck rfl) rfl rfl ?_
 refine rg_q (wn_none rfl) (op_field fld_47_0 rfl) rfl rfl ?_
 refine rg_q (wn_none rfl) (op_ld 5 sc_45 rfl rfl rfl) rfl rfl ?_
 refine rg_q (wn_none rfl) (op_lda (L := rootC _) 0 ag_24 rfl rfl (rootC_take' _) (by simp [rootC_len])) rfl rfl ?_
 refine rg_i (wn_none rfl) (os_back (os_pull2 (os_pull2 (os_call cb_49 rfl (fun w s => RPlaceO_calls _ _ _ _ _ _ _ _  s )))) (fun _ s => (((((((s.pull 6).pull 6).pull 6).pull 6).pull 5).pull 5).pull 6))) rfl rfl ?_; rintro _ _ ⟨rfl, rfl⟩; rw [hpl]; refine ⟨[], rfl, ?_⟩
 refine rg_q (wn_none rfl) (op_assign (v := .int _ _) rfl) rfl rfl ?_
 refine rg_nil_then0 ?_
 refine cd_seq ?_
 refine cd_sr ?_
 refine oq (op_move (v := .int _ _) rfl) ?_
 refine oq (op_move (v := .pointer _) rfl) ?_
 refine oq (op_nilck rfl) ?_
 refine oq (op_field fld_47_2 rfl) ?_
 refine oq (op_ld 5 sc_3 rfl rfl rfl) ?_
 refine oq (op_ge rfl rfl) ?_
 refine ol_nil_then ?_
 refine cd_cond rfl (fun hb1 => ?_) (fun hb1 => ?_)
 ·have hp1 := hb1
  (try simp only [bn] at hp1)
  refine cd_sr ?_
  refine oq (op_assign (v := .int _ _) rfl) ?_
  refine ol_nil_then ?_
  refine cd_ret ?_
  refine px_thenR ?_
  exact px_ret1 rfl (v := .int _ _) rfl (fun _ s => (s.del 0)) ⟨congrArg (Value.int .i64) (by unfold rplW; rw [if_pos (by omega)]), rfl⟩
 ·have hp1 := hb1
  (try simp only [bn] at hp1)
  refine cd_skip ?_
  refine px_then ?_
  refine cd_sr ?_
  refine oq (op_move (v := .int _ _) rfl) ?_
  refine oq (op_assign (v := .int _ _) rfl) ?_
  refine ol_nil_then ?_
  refine cd_ret ?_
  exact px_ret1 rfl (v := .int _ _) rfl (fun _ s => (s.del 0)) ⟨congrArg (Value.int .i64) (by unfold rplW; rw [if_neg (by omega)]), rfl⟩

set_option maxRecDepth 100000 in
set_option maxHeartbeats 1000000 in
theorem RKidsW_calls {w0 w : World} {l : List HProp} (pm pr : Nat) (t : TreeS) (a1 a2 a3 a4 : Option Addr) (c1 c2 c3 c4 : Nat) (R : List Root) (Sl : List Int) (Pa : List Root) (o : List Int) (i : Nat) (hs : Sat w0 w ((Blk pr (.cells #[.slice a1 R.length c1, .slice a2 Sl.length c2, .slice a3 Pa.length c3, .int .i64 t.most] 44 (0, 0))) :: (Row 24 encRoot (.slice a1 R.length c1) R) :: (Row 3 encI64 (.slice a2 Sl.length c2) Sl) :: (Row 24 encRoot (.slice a3 Pa.length c3) Pa) :: (Blk pm (.cells #[.pointer (some ⟨pr, 0, none⟩), .slice a4 o.length c4, .int .i64 (o.length : Int)] 47 (0, 0))) :: (Row 3 encI64 (.slice a4 o.length c4) o) :: l)) (hw : t.WF) (hR : RTreeOf t R Sl Pa) (h1 : o.length ≤ t.nodes.length) (hi : i < o.length) :
  Calls Try.prog 80 #[.pointer (some ⟨pm, 0, none⟩), .int .i64 (i : Int)] w (Ret w0 fun v l' => ∃ ao c, v = .slice ao (castL (kidsI t.nodes o.length i)).length c ∧ l' = Row 3 encI64 (.slice ao (castL (kidsI t.nodes o.length i)).length c) (castL (kidsI t.nodes o.length i)) :: Blk pr (.cells #[.slice a1 R.length c1, .slice a2 Sl.length c2, .slice a3 Pa.length c3, .int .i64 t.most] 44 (0, 0)) :: Row 24 encRoot (.slice a1 R.length c1) R :: Row 3 encI64 (.slice a2 Sl.length c2) Sl :: Row 24 encRoot (.slice a3 Pa.length c3) Pa :: Blk pm (.cells #[.pointer (some ⟨pr, 0, none⟩), .slice a4 o.length c4, .int .i64 (o.length : Int)] 47 (0, 0)) :: Row 3 encI64 (.slice a4 o.length c4) o :: l) := by
 have hle := hw.le; have hm2 := hw.m2; have hpa := hw.pa; have hnd := hw.nd
 have hRl : R.length = t.nodes.length := by rw [hR.r, List.length_map]
 have hSl : Sl.length = t.nodes.length := by rw [hR.s, List.length_map]
 have hPl : Pa.length = t.nodes.length := by rw [hR.p]; unfold parR; rw [List.length_map]
 have hpl : ∀ r, rplace R r = t.place r := fun r => by rw [hR.r, rplace_map]
 refine calls_enter Try.func80 rfl rfl rfl hs ?_
 refine cd_sr ?_
 refine oq (op_assign (v := .slice _ _ _) rfl) ?_
 refine ol_nil_then ?_
 refine cd_sr ?_
 refine oq (op_assign (v := .slice _ _ _) rfl) ?_
 refine ol_nil_then ?_
 refine cd_seq ?_
 refine cd_sr ?_
 refine oq (op_move (v := .int _ _) rfl) ?_
 refine oq (op_add rfl rfl (by omega) (by omega)) ?_
 refine oq (op_assign (v := .int _ _) rfl) ?_
 refine ol_nil_then ?_
 refine cd_block ?_
 refine cd_imp (fun _ s => Sat.rowNil (E := encI64) (e := 3) s) ?_
 refine cd_loop2 (α := Nat × Option Addr × Nat) [(5, 6), (9, 28)] (fun x => [(5, .slice x.2.1 (castL (kidsI t.nodes x.1 i)).length x.2.2), (6, .int .i64 (x.1 : Int))]) (fun x => Row 3 encI64 (.slice x.2.1 (castL (kidsI t.nodes x.1 i)).length x.2.2) (castL (kidsI t.nodes x.1 i)) :: Blk pr (.cells #[.slice a1 R.length c1, .slice a2 Sl.length c2, .slice a3 Pa.length c3, .int .i64 t.most] 44 (0, 0)) :: Row 24 encRoot (.slice a1 R.length c1) R :: Row 3 encI64 (.slice a2 Sl.length c2) Sl :: Row 24 encRoot (.slice a3 Pa.length c3) Pa :: Blk pm (.cells #[.pointer (some ⟨pr, 0, none⟩), .slice a4 o.length c4, .int .i64 (o.length : Int)] 47 (0, 0)) :: Row 3 encI64 (.slice a4 o.length c4) o :: l) (fun x => i + 1 ≤ x.1 ∧ x.1 ≤ o.length) (fun x => o.length - x.1) (i + 1, none, 0) ⟨Nat.le_refl _, hi⟩ ⟨by (try dsimp only); rw [kidsI_first hpa (by omega)]; rfl, congrArg (Value.int .i64) (by simp), trivial⟩ (fun _ s => by (try dsimp only); rw [kidsI_first hpa (by omega)]; exact s) ?_
 rintro ⟨k, b1, d1⟩ ⟨hk0, hk⟩ f; (try dsimp only at hk0 hk ⊢)
 refine cd_seq ?_
 refine cd_sr ?_
 refine oq (op_move (v := .int _ _) rfl) ?_
 refine oq (op_move (v := .pointer _) rfl) ?_
 refine oq (op_nilck rfl) ?_
 refine oq (op_field fld_47_2 rfl) ?_
 refine oq (op_ld 5 sc_3 rfl rfl rfl) ?_
 refine oq (op_lt rfl rfl) ?_
 refine ol_nil_then ?_
 refine cd_cond rfl (fun hb1 => ?_) (fun hb1 => ?_)
 ·have hp1 := hb1
  (try simp only [bn] at hp1)
  have hk1 : k < o.length := by omega
  refine cd_skip ?_
  refine px_then ?_
  refine cd_seq ?_
  refine cd_block ?_
  refine cd_sr ?_
  refine oq (op_move (v := .pointer _) rfl) ?_
  refine oq (op_nilck rfl) ?_
  refine oq (op_field fld_47_0 rfl) ?_
  refine oq (op_ld 5 sc_45 rfl rfl rfl) ?_
  refine oq (op_move (v := .int _ _) rfl) ?_
  refine ol_pull4 ?_
  refine ol_pull4 ?_
  refine ol_pull4 ?_
  refine ol_pull4 ?_
  refine oi (os_call cb_25 rfl (fun w s => RUpO_calls _ _ _ _ _ _ _ _ _ _ _ _  s (by assumption) (by assumption))) ?_; rintro _ _ ⟨rfl, rfl⟩; rw [up_pr]
  refine oq (op_move (v := .int _ _) rfl) ?_
  refine oq (op_eq rfl rfl) ?_
  refine ol_nil_then ?_
  refine cd_cond rfl (fun hb2 => ?_) (fun hb2 => ?_)
  ·have hp2 := hb2
   (try simp only [bn] at hp2)
   have eK : (castL (kidsI t.nodes k i)) ++ [(k : Int)] = (castL (kidsI t.nodes (k + 1) i)) := by rw [kidsI_succ, if_pos hp2]; exact castL_snoc _ _
   refine cd_region ?_
   refine oq (op_move (v := .slice _ _ _) rfl) ?_
   refine oq (op_move (v := .int _ _) rfl) ?_
   refine oi (os_bslice (E := encI64) [_] (ys := [_]) sB_42 zv_3 rfl rfl rfl rfl (by decide)) ?_; rintro _ _ ⟨ao1, rfl, rfl⟩
   refine ol_pull5 ?_
   refine oi (os_append (E := encI64) rfl sB_42 zv_3 rfl rfl rfl (fun w s => (rds_row 1 rfl rfl) [] w s) rfl (by rw [castL_len]; simp; have := kidsI_len t.nodes k i; omega) (by unfold maxLen; rw [castL_len]; simp; have := kidsI_len t.nodes k i; omega)) ?_; rintro _ _ ⟨ao2, ac2, rfl, rfl⟩
   refine oq (op_assign (v := .slice _ _ _) rfl) ?_
   refine ol_nil ?_
   refine px_blockN ?_
   refine px_then ?_
   refine cd_region ?_
   refine oq (op_move (v := .int _ _) rfl) ?_
   refine oq (op_add rfl rfl (by omega) (by omega)) ?_
   refine oq (op_assign (v := .int _ _) rfl) ?_
   refine ol_nil ?_
   refine px_loop2 (k + 1, ao2, ac2) ⟨by dsimp only; omega, by dsimp only; omega⟩ (by (try dsimp only); omega) ⟨congrArg (fun q => Value.slice ao2 (List.length q) ac2) eK, congrArg (Value.int .i64) (by simp), trivial⟩ ?_ (fun _ s => (by (try dsimp only); rw [← eK]; exact (s.del 1)))
   repeat (first | exact kept_over | refine kept_upd rfl ?_ | refine kept_overS (by decide) ?_)
  ·have hp2 := hb2
   (try simp only [bn] at hp2)
   have eK : (castL (kidsI t.nodes k i)) = (castL (kidsI t.nodes (k + 1) i)) := by rw [kidsI_succ, if_neg hp2]
   refine cd_skip ?_
   refine px_blockN ?_
   refine px_then ?_
   refine cd_region ?_
   refine oq (op_move (v := .int _ _) rfl) ?_
   refine oq (op_add rfl rfl (by omega) (by omega)) ?_
   refine oq (op_assign (v := .int _ _) rfl) ?_
   refine ol_nil ?_
   refine px_loop2 (k + 1, b1, d1) ⟨by dsimp only; omega, by dsimp only; omega⟩ (by (try dsimp only); omega) ⟨congrArg (fun q => Value.slice b1 (List.length q) d1) eK, congrArg (Value.int .i64) (by simp), trivial⟩ ?_ (fun _ s => (by (try dsimp only); rw [← eK]; exact (((((((s.pull 6).pull 6).pull 5).pull 5).pull 5).pull 5).pull 6)))
   repeat (first | exact kept_over | refine kept_upd rfl ?_ | refine kept_overS (by decide) ?_)
 ·have hp1 := hb1
  (try simp only [bn] at hp1)
  have hk1 : k = o.length := by omega
  refine cd_exit ?_
  refine px_thenE ?_
  refine px_thenE ?_
  refine px_blockE ?_
  refine px_then ?_
  refine cd_sr ?_
  refine oq (op_move (v := .slice _ _ _) rfl) ?_
  refine oq (op_assign (v := .slice _ _ _) rfl) ?_
  refine ol_nil_then ?_
  refine cd_ret ?_
  subst hk1
  exact px_ret1 rfl (v := .slice _ _ _) rfl (fun _ s => s) ⟨_, _, rfl, rfl⟩
end Go.SL

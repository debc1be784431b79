import Derived.Test.YtdeemlgkckpedaaTree
import Derived.Test.YtdeemlgkckpedaaLess
set_option linter.unusedVariables false
set_option linter.unusedSimpArgs false
namespace Go.SL
open Go.Proofs

theorem cd_imp {P : Program} {w0 : World} {n : Nat} {Q : Exit → Act → World → Prop} {f : Fr} {c : Code} {l l' : List HProp} (hl : ∀ w, Sat w0 w l → Sat w0 w l') (h : CD P w0 n c Q f l') : CD P w0 n c Q f l := fun a w r s => h a w r (hl w s)
/-- weights: their block and rows -/
def WRaw (pw pt : Nat) (o sm be lf : List Int) : HProp := ex fun x : Option Addr × Nat × Option Addr × Nat × Option Addr × Nat × Option Addr × Nat => match x with | (a1, c1, a2, c2, a3, c3, a4, c4) => stars (Blk pw (.cells #[.pointer (some ⟨pt, 0, none⟩), .slice a1 o.length c1, .slice a2 sm.length c2, .slice a3 be.length c3, .slice a4 lf.length c4] 116 (0, 0)) :: Row 3 encI64 (.slice a1 o.length c1) o :: Row 3 encI64 (.slice a2 sm.length c2) sm :: Row 3 encI64 (.slice a3 be.length c3) be :: Row 3 encI64 (.slice a4 lf.length c4) lf :: [])
theorem Sat.wrawOpen {w0 w : World} {l : List HProp} {pw pt : Nat} {o sm be lf : List Int} (s : Sat w0 w (WRaw pw pt o sm be lf :: l)) : ∃ a1 c1 a2 c2 a3 c3 a4 c4, Sat w0 w (Blk pw (.cells #[.pointer (some ⟨pt, 0, none⟩), .slice a1 o.length c1, .slice a2 sm.length c2, .slice a3 be.length c3, .slice a4 lf.length c4] 116 (0, 0)) :: Row 3 encI64 (.slice a1 o.length c1) o :: Row 3 encI64 (.slice a2 sm.length c2) sm :: Row 3 encI64 (.slice a3 be.length c3) be :: Row 3 encI64 (.slice a4 lf.length c4) lf :: l) := by
 obtain ⟨⟨a1, c1, a2, c2, a3, c3, a4, c4⟩, s⟩ := Sat.ex_iff.1 s
 exact ⟨a1, c1, a2, c2, a3, c3, a4, c4, Sat.stars_iff.1 s⟩
theorem Sat.wrawMk {w0 w : World} {l : List HProp} {pw pt : Nat} {o sm be lf : List Int} {a1 a2 a3 a4 : Option Addr} {c1 c2 c3 c4 m1 m2 m3 m4 : Nat} (h1 : m1 = o.length) (h2 : m2 = sm.length) (h3 : m3 = be.length) (h4 : m4 = lf.length)
  (s : Sat w0 w (Blk pw (.cells #[.pointer (some ⟨pt, 0, none⟩), .slice a1 m1 c1, .slice a2 m2 c2, .slice a3 m3 c3, .slice a4 m4 c4] 116 (0, 0)) :: Row 3 encI64 (.slice a1 m1 c1) o :: Row 3 encI64 (.slice a2 m2 c2) sm :: Row 3 encI64 (.slice a3 m3 c3) be :: Row 3 encI64 (.slice a4 m4 c4) lf :: l)) : Sat w0 w (WRaw pw pt o sm be lf :: l) := by
 subst h1 h2 h3 h4
 exact Sat.ex_iff.2 ⟨(a1, c1, a2, c2, a3, c3, a4, c4), Sat.stars_iff.2 s⟩
theorem cd_wrawOpen {w0 : World} {n : Nat} {Q : Exit → Act → World → Prop} {f : Fr} {c : Code} {l : List HProp} {pw pt : Nat} {o sm be lf : List Int} (h : ∀ a1 c1 a2 c2 a3 c3 a4 c4, CD Try.prog w0 n c Q f (Blk pw (.cells #[.pointer (some ⟨pt, 0, none⟩), .slice a1 o.length c1, .slice a2 sm.length c2, .slice a3 be.length c3, .slice a4 lf.length c4] 116 (0, 0)) :: Row 3 encI64 (.slice a1 o.length c1) o :: Row 3 encI64 (.slice a2 sm.length c2) sm :: Row 3 encI64 (.slice a3 be.length c3) be :: Row 3 encI64 (.slice a4 lf.length c4) lf :: l)) : CD Try.prog w0 n c Q f (WRaw pw pt o sm be lf :: l) := fun a w r s =>
 let ⟨a1, c1, a2, c2, a3, c3, a4, c4, s'⟩ := s.wrawOpen
 h a1 c1 a2 c2 a3 c3 a4 c4 a w r s'
theorem node_pr {t : TreeS} (i : Nat) : ((t.nodes[i]?).getD nodeNo).parent = prA t.nodes i := rfl

set_option maxRecDepth 100000 in
set_option maxHeartbeats 1000000 in
theorem ahead_calls {w0 w : World} {l : List HProp} (pw pt : Nat) (t : TreeS) (x1 x3 x4 : Value) (a2 : Option Addr) (c2 n2 : Nat) (sm : List Int) (i : Nat) (k : Int) (hs : Sat w0 w ((TreeObj pt t) :: (Blk pw (.cells #[.pointer (some ⟨pt, 0, none⟩), x1, .slice a2 n2 c2, x3, x4] 116 (0, 0))) :: (Row 3 encI64 (.slice a2 n2 c2) sm) :: l)) (hn : sm.length = n2) (hi : i < n2) (hk : k < (n2 : Int)) :
  Calls Try.prog 93 #[.pointer (some ⟨pw, 0, none⟩), .int .i64 (i : Int), .int .i64 k] w (Ret w0 fun v l' => v = .bool (aheadN t.nodes (oA sm) i k) ∧ l' = TreeObj pt t :: Blk pw (.cells #[.pointer (some ⟨pt, 0, none⟩), x1, .slice a2 n2 c2, x3, x4] 116 (0, 0)) :: Row 3 encI64 (.slice a2 n2 c2) sm :: l) := by
 refine calls_enter Try.func93 rfl rfl rfl hs ?_
 refine cd_sr ?_
 refine oq (op_assign (v := .bool _) rfl) ?_
 refine ol_nil_then ?_
 refine cd_seq ?_
 refine cd_seq ?_
 refine cd_draw (M := []) mx [] (by kernel_rfl) ?_
 refine rg_q (wn_none rfl) (op_move (v := .int _ _) rfl) rfl rfl ?_
 refine rg_q (wn_none rfl) (op_lt rfl rfl) rfl rfl ?_
 refine rg_q (wn_none rfl) (op_move (v := .bool _) rfl) rfl rfl ?_
 refine rg_split 13 rfl (fun hb1 => ?_) (fun hb1 => ?_)
 ·have hp1 := hb1
  (try simp only [bn] at hp1)
  refine rg_skip (wn_some rfl rfl rfl hb1 rfl) rfl ?_
  refine rg_skip (wn_some rfl rfl rfl hb1 rfl) rfl ?_
  refine rg_skip (wn_some rfl rfl rfl hb1 rfl) rfl ?_
  refine rg_skip (wn_some rfl rfl rfl hb1 rfl) rfl ?_
  refine rg_skip (wn_some rfl rfl rfl hb1 rfl) rfl ?_
  refine rg_skip (wn_some rfl rfl rfl hb1 rfl) rfl ?_
  refine rg_skip (wn_some rfl rfl rfl hb1 rfl) rfl ?_
  refine rg_skip (wn_some rfl rfl rfl hb1 rfl) rfl ?_
  refine rg_skip (wn_some rfl rfl rfl hb1 rfl) rfl ?_
  refine rg_skip (wn_some rfl rfl rfl hb1 rfl) rfl ?_
  refine rg_skip (wn_some rfl rfl rfl hb1 rfl) rfl ?_
  refine rg_skip (wn_some rfl rfl rfl hb1 rfl) rfl ?_
  refine rg_skip (wn_some rfl rfl rfl hb1 rfl) rfl ?_
  refine rg_skip (wn_some rfl rfl rfl hb1 rfl) rfl ?_
  refine rg_skip (wn_some rfl rfl rfl hb1 rfl) rfl ?_
  refine rg_q (wn_none rfl) (op_pick_t (v := .bool _) rfl hb1 rfl) rfl rfl ?_
  refine rg_nil_then0 ?_
  refine cd_cond_t rfl rfl ?_
  refine cd_seq ?_
  refine cd_draw (M := []) mx [] (by kernel_rfl) ?_
  refine rg_q (wn_none rfl) (op_move (v := .int _ _) rfl) rfl rfl ?_
  refine rg_q (wn_none rfl) (op_lt rfl rfl) rfl rfl ?_
  refine rg_q (wn_none rfl) (op_move (v := .bool _) rfl) rfl rfl ?_
  refine rg_split 32 rfl (fun hb2 => ?_) (fun hb2 => ?_)
  ·have hp2 := hb2
   (try simp only [bn] at hp2)
   refine rg_skip (wn_some rfl rfl rfl hb2 rfl) rfl ?_
   refine rg_skip (wn_some rfl rfl rfl hb2 rfl) rfl ?_
   refine rg_skip (wn_some rfl rfl rfl hb2 rfl) rfl ?_
   refine rg_skip (wn_some rfl rfl rfl hb2 rfl) rfl ?_
   refine rg_skip (wn_some rfl rfl rfl hb2 rfl) rfl ?_
   refine rg_skip (wn_some rfl rfl rfl hb2 rfl) rfl ?_
   refine rg_skip (wn_some rfl rfl rfl hb2 rfl) rfl ?_
   refine rg_skip (wn_some rfl rfl rfl hb2 rfl) rfl ?_
   refine rg_skip (wn_some rfl rfl rfl hb2 rfl) rfl ?_
   refine rg_skip (wn_some rfl rfl rfl hb2 rfl) rfl ?_
   refine rg_skip (wn_some rfl rfl rfl hb2 rfl) rfl ?_
   refine rg_skip (wn_some rfl rfl rfl hb2 rfl) rfl ?_
   refine rg_skip (wn_some rfl rfl rfl hb2 rfl) rfl ?_
   refine rg_skip (wn_some rfl rfl rfl hb2 rfl) rfl ?_
   refine rg_skip (wn_some rfl rfl rfl hb2 rfl) rfl ?_
   refine rg_q (wn_none rfl) (op_pick_t (v := .bool _) rfl hb2 rfl) rfl rfl ?_
   refine rg_q (wn_none rfl) (op_assign (v := .bool _) rfl) rfl rfl ?_
   refine rg_nil_then0 ?_
   refine cd_ret ?_
   refine px_thenR ?_
   exact px_ret1 rfl (v := .bool _) rfl (fun _ s => s) ⟨congrArg Value.bool (by unfold aheadN; rw [decide_eq_true (show k < 0 by omega)]; rfl), rfl⟩
  ·have hp2 := hb2
   (try simp only [bn] at hp2)
   omega
 ·have hp1 := hb1
  (try simp only [bn] at hp1)
  refine rg_q (wn_some rfl rfl rfl hb1 rfl) (op_move (v := .pointer _) rfl) rfl rfl ?_
  refine rg_q (wn_some rfl rfl rfl hb1 rfl) (op_nilck rfl) rfl rfl ?_
  refine rg_q (wn_some rfl rfl rfl hb1 rfl) (op_field fld_116_2 rfl) rfl rfl ?_
  refine rg_q (wn_some rfl rfl rfl hb1 rfl) (op_ld 1 sc_42 rfl rfl rfl) rfl rfl ?_
  refine rg_q (wn_some rfl rfl rfl hb1 rfl) (op_move (v := .int _ _) rfl) rfl rfl ?_
  refine rg_q (wn_some rfl rfl rfl hb1 rfl) (op_index i sB_42 rfl rfl rfl (rds_row 2 rfl rfl) (by omega) (by omega)) rfl rfl ?_
  refine rg_q (wn_some rfl rfl rfl hb1 rfl) (op_ldw sc_3 (rds_row 2 rfl rfl) rfl (by omega) rfl) rfl rfl ?_
  refine rg_q (wn_some rfl rfl rfl hb1 rfl) (op_move (v := .pointer _) rfl) rfl rfl ?_
  refine rg_q (wn_some rfl rfl rfl hb1 rfl) (op_nilck rfl) rfl rfl ?_
  refine rg_q (wn_some rfl rfl rfl hb1 rfl) (op_field fld_116_2 rfl) rfl rfl ?_
  refine rg_q (wn_some rfl rfl rfl hb1 rfl) (op_ld 1 sc_42 rfl rfl rfl) rfl rfl ?_
  refine rg_q (wn_some rfl rfl rfl hb1 rfl) (op_move (v := .int _ _) rfl) rfl rfl ?_
  refine rg_q (wn_some rfl rfl rfl hb1 rfl) (op_index k.toNat sB_42 rfl rfl (by omega) (rds_row 2 rfl rfl) (by omega) (by omega)) rfl rfl ?_
  refine rg_q (wn_some rfl rfl rfl hb1 rfl) (op_ldw sc_3 (rds_row 2 rfl rfl) rfl (by omega) rfl) rfl rfl ?_
  refine rg_q (wn_some rfl rfl rfl hb1 rfl) (op_ne rfl rfl) rfl rfl ?_
  refine rg_q (wn_none rfl) (op_pick_f (v := .bool _) rfl hb1 rfl) rfl rfl ?_
  refine rg_nil_then0 ?_
  refine cd_cond rfl (fun hb3 => ?_) (fun hb3 => ?_)
  ·have hp3 := hb3
   (try simp only [bn] at hp3)
   refine cd_seq ?_
   refine cd_draw (M := []) mx [] (by kernel_rfl) ?_
   refine rg_q (wn_none rfl) (op_move (v := .int _ _) rfl) rfl rfl ?_
   refine rg_q (wn_none rfl) (op_lt rfl rfl) rfl rfl ?_
   refine rg_q (wn_none rfl) (op_move (v := .bool _) rfl) rfl rfl ?_
   refine rg_split 32 rfl (fun hb4 => ?_) (fun hb4 => ?_)
   ·have hp4 := hb4
    (try simp only [bn] at hp4)
    omega
   ·have hp4 := hb4
    (try simp only [bn] at hp4)
    refine rg_q (wn_some rfl rfl rfl hb4 rfl) (op_move (v := .pointer _) rfl) rfl rfl ?_
    refine rg_q (wn_some rfl rfl rfl hb4 rfl) (op_nilck rfl) rfl rfl ?_
    refine rg_q (wn_some rfl rfl rfl hb4 rfl) (op_field fld_116_2 rfl) rfl rfl ?_
    refine rg_q (wn_some rfl rfl rfl hb4 rfl) (op_ld 1 sc_42 rfl rfl rfl) rfl rfl ?_
    refine rg_q (wn_some rfl rfl rfl hb4 rfl) (op_move (v := .int _ _) rfl) rfl rfl ?_
    refine rg_q (wn_some rfl rfl rfl hb4 rfl) (op_index i sB_42 rfl rfl rfl (rds_row 2 rfl rfl) (by omega) (by omega)) rfl rfl ?_
    refine rg_q (wn_some rfl rfl rfl hb4 rfl) (op_ldw sc_3 (rds_row 2 rfl rfl) rfl (by omega) rfl) rfl rfl ?_
    refine rg_q (wn_some rfl rfl rfl hb4 rfl) (op_move (v := .pointer _) rfl) rfl rfl ?_
    refine rg_q (wn_some rfl rfl rfl hb4 rfl) (op_nilck rfl) rfl rfl ?_
    refine rg_q (wn_some rfl rfl rfl hb4 rfl) (op_field fld_116_2 rfl) rfl rfl ?_
    refine rg_q (wn_some rfl rfl rfl hb4 rfl) (op_ld 1 sc_42 rfl rfl rfl) rfl rfl ?_
    refine rg_q (wn_some rfl rfl rfl hb4 rfl) (op_move (v := .int _ _) rfl) rfl rfl ?_
    refine rg_q (wn_some rfl rfl rfl hb4 rfl) (op_index k.toNat sB_42 rfl rfl (by omega) (rds_row 2 rfl rfl) (by omega) (by omega)) rfl rfl ?_
    refine rg_q (wn_some rfl rfl rfl hb4 rfl) (op_ldw sc_3 (rds_row 2 rfl rfl) rfl (by omega) rfl) rfl rfl ?_
    refine rg_q (wn_some rfl rfl rfl hb4 rfl) (op_gt rfl rfl) rfl rfl ?_
    refine rg_q (wn_none rfl) (op_pick_f (v := .bool _) rfl hb4 rfl) rfl rfl ?_
    refine rg_q (wn_none rfl) (op_assign (v := .bool _) rfl) rfl rfl ?_
    refine rg_nil_then0 ?_
    refine cd_ret ?_
    refine px_thenR ?_
    exact px_ret1 rfl (v := .bool _) rfl (fun _ s => s) ⟨congrArg Value.bool (by unfold aheadN beats; rw [decide_eq_false (show ¬ k < 0 by omega), oA_get (show i < sm.length by omega), oA_get (show k.toNat < sm.length by omega), decide_eq_false (show ¬ sm[i] = sm[k.toNat] by omega), Bool.false_and, Bool.or_false, Bool.false_or]), rfl⟩
  ·have hp3 := hb3
   (try simp only [bn] at hp3)
   refine cd_skip ?_
   refine px_then ?_
   refine cd_sr ?_
   refine oq (op_move (v := .pointer _) rfl) ?_
   refine oq (op_nilck rfl) ?_
   refine oq (op_field fld_116_0 rfl) ?_
   refine oq (op_ld 1 sc_26 rfl rfl rfl) ?_
   refine oq (op_move (v := .int _ _) rfl) ?_
   refine oi (os_call cb_24 rfl (fun w s => Node_calls _ _ _  s )) ?_; rintro _ _ ⟨rfl, rfl⟩; rw [TreeS.node_at]
   refine oq (op_move (v := .tuple _) rfl) ?_
   refine oq (op_extract (v := .agg _) rfl rfl) ?_
   refine oq (op_extract (v := .bool _) rfl rfl) ?_
   refine oi (os_alloc (cs := (nodeC Node.zero).toArray) zB_51 (by kernel_rfl)) ?_; rintro _ _ ⟨bx1, rfl, rfl⟩
   refine oN (os_storew (nodeC _) ag_51 rfl rfl (nodeC_len _) (nodeC_one _) (by simp [nodeC_len]) (Free.zero _)) ?_; rintro _ _ ⟨rfl, rfl⟩
   refine oq (op_assign (v := .bool _) rfl) ?_
   refine ol_nil_then ?_
   refine cd_sr ?_
   refine oq (op_move (v := .pointer _) rfl) ?_
   refine oq (op_nilck rfl) ?_
   refine oq (op_field fld_116_0 rfl) ?_
   refine oq (op_ld 2 sc_26 rfl rfl rfl) ?_
   refine oq (op_move (v := .int _ _) rfl) ?_
   refine ol_pull1 ?_
   refine oi (os_call cb_24 rfl (fun w s => Node_calls _ _ _  s )) ?_; rintro _ _ ⟨rfl, rfl⟩; rw [show t.node k = t.nodes[k.toNat]? from by unfold TreeS.node; rw [if_pos (by omega)]]
   refine oq (op_move (v := .tuple _) rfl) ?_
   refine oq (op_extract (v := .agg _) rfl rfl) ?_
   refine oq (op_extract (v := .bool _) rfl rfl) ?_
   refine oi (os_alloc (cs := (nodeC Node.zero).toArray) zB_51 (by kernel_rfl)) ?_; rintro _ _ ⟨bx2, rfl, rfl⟩
   refine oN (os_storew (nodeC _) ag_51 rfl rfl (nodeC_len _) (nodeC_one _) (by simp [nodeC_len]) (Free.zero _)) ?_; rintro _ _ ⟨rfl, rfl⟩
   refine oq (op_assign (v := .bool _) rfl) ?_
   refine ol_nil_then ?_
   refine cd_sr ?_
   refine oq (op_field fld_51_0 rfl) ?_
   refine oq (op_lda (L := rootC _) 0 ag_24 rfl rfl (nodeC_af0 _) (by simp [nodeC_len])) ?_
   refine oq (op_field fld_51_0 rfl) ?_
   refine oq (op_lda (L := rootC _) 2 ag_24 rfl rfl (nodeC_af0 _) (by simp [nodeC_len])) ?_
   refine oi (os_call cb_106 rfl (fun w s => Less_calls _ _  s )) ?_; rintro _ l ⟨rfl, rfl⟩
   refine oq (op_assign (v := .bool _) rfl) ?_
   refine ol_nil_then ?_
   refine cd_ret ?_
   exact px_ret1 rfl (v := .bool _) rfl (fun _ s => ((s.del 2).del 0)) ⟨congrArg Value.bool (by unfold aheadN beats rtA; rw [decide_eq_false (show ¬ k < 0 by omega), oA_get (show i < sm.length by omega), oA_get (show k.toNat < sm.length by omega), decide_eq_true (show sm[i] = sm[k.toNat] by omega), decide_eq_false (show ¬ sm[k.toNat] < sm[i] by omega)]; rfl), rfl⟩
end Go.SL

import Derived.Test.YtdeemlgkckpedaaTree
set_option linter.unusedVariables false
set_option linter.unusedSimpArgs false
namespace Go.SL
open Go.Proofs

/-- the reference's tree: all that it owns -/
def RTreeObj (p : Nat) (t : TreeS) : HProp := ex fun x : (Option Addr × Nat × Option Addr × Nat × Option Addr × Nat) × (List Root × List Int × List Root) =>
 match x with | ((a1, c1, a2, c2, a3, c3), (R, Sl, Pa)) => stars (pr (t.WF ∧ RTreeOf t R Sl Pa) :: Blk p (.cells #[.slice a1 R.length c1, .slice a2 Sl.length c2, .slice a3 Pa.length c3, .int .i64 t.most] 44 (0, 0)) :: Row 24 encRoot (.slice a1 R.length c1) R :: Row 3 encI64 (.slice a2 Sl.length c2) Sl :: Row 24 encRoot (.slice a3 Pa.length c3) Pa :: [])
theorem Sat.rtreeOpen {w0 w : World} {l : List HProp} {p : Nat} {t : TreeS} (s : Sat w0 w (RTreeObj p t :: l)) : ∃ a1 c1 a2 c2 a3 c3 R Sl Pa, t.WF ∧ RTreeOf t R Sl Pa ∧ Sat w0 w (Blk p (.cells #[.slice a1 R.length c1, .slice a2 Sl.length c2, .slice a3 Pa.length c3, .int .i64 t.most] 44 (0, 0)) :: Row 24 encRoot (.slice a1 R.length c1) R :: Row 3 encI64 (.slice a2 Sl.length c2) Sl :: Row 24 encRoot (.slice a3 Pa.length c3) Pa :: l) := by
 obtain ⟨⟨⟨a1, c1, a2, c2, a3, c3⟩, ⟨R, Sl, Pa⟩⟩, s⟩ := Sat.ex_iff.1 s
 have s1 := Sat.stars_iff.1 s
 obtain ⟨hw, s2⟩ := Sat.pr_iff.1 s1
 exact ⟨a1, c1, a2, c2, a3, c3, R, Sl, Pa, hw.1, hw.2, s2⟩
theorem Sat.rtreeMk {w0 w : World} {l : List HProp} {p : Nat} {t : TreeS} {a1 a2 a3 : Option Addr} {c1 c2 c3 m1 m2 m3 : Nat} {R : List Root} {Sl : List Int} {Pa : List Root} (hw : t.WF) (hr : RTreeOf t R Sl Pa) (h1 : m1 = R.length) (h2 : m2 = Sl.length) (h3 : m3 = Pa.length)
  (s : Sat w0 w (Blk p (.cells #[.slice a1 m1 c1, .slice a2 m2 c2, .slice a3 m3 c3, .int .i64 t.most] 44 (0, 0)) :: Row 24 encRoot (.slice a1 m1 c1) R :: Row 3 encI64 (.slice a2 m2 c2) Sl :: Row 24 encRoot (.slice a3 m3 c3) Pa :: l)) : Sat w0 w (RTreeObj p t :: l) := by
 subst h1 h2 h3
 exact Sat.ex_iff.2 ⟨((a1, c1, a2, c2, a3, c3), (R, Sl, Pa)), Sat.stars_iff.2 (Sat.pr_iff.2 ⟨⟨hw, hr⟩, s⟩)⟩
theorem Sat.rtreeWF {w0 w : World} {l : List HProp} {p : Nat} {t : TreeS} (s : Sat w0 w (RTreeObj p t :: l)) : t.WF := let ⟨_, _, _, _, _, _, _, _, _, h, _⟩ := s.rtreeOpen; h

set_option maxRecDepth 100000 in
set_option maxHeartbeats 1000000 in
theorem RTNew_calls {w0 w : World} {l : List HProp} (r : Root) (slot most : Int) (hs : Sat w0 w (l))  :
  Calls Try.prog 46 #[.agg (rootC r).toArray, .int .i64 slot, .int .i64 most] w (Ret w0 fun v l' => (v = .tuple #[.pointer none, .bool false] ∧ l' = l ∧ (most < 1 ∨ 256 < most ∨ slot < 0 ∨ 1073741824 < slot)) ∨ ∃ p, v = .tuple #[.pointer (some ⟨p, 0, none⟩), .bool true] ∧ (1 ≤ most ∧ most ≤ 256 ∧ 0 ≤ slot ∧ slot ≤ 1073741824) ∧ l' = RTreeObj p (TreeS.new r slot most) :: l) := by
 refine calls_enter Try.func46 rfl rfl rfl hs ?_
 refine cd_sr ?_
 refine oi (os_boxa rfl) ?_; rintro _ _ ⟨bx1, rfl, rfl⟩
 refine oq (op_assign (v := .pointer _) rfl) ?_
 refine oq (op_assign (v := .bool _) rfl) ?_
 refine ol_nil_then ?_
 refine cd_seq ?_
 refine cd_sr ?_
 refine oq (op_move (v := .int _ _) rfl) ?_
 refine oq (op_lt rfl rfl) ?_
 refine oq (op_move (v := .bool _) rfl) ?_
 refine ol_split 10 rfl (fun hb1 => ?_) (fun hb1 => ?_)
 ·have hp1 := hb1
  (try simp only [bn] at hp1)
  refine ol_skip (wn_some rfl rfl rfl hb1 rfl) rfl ?_
  refine ol_skip (wn_some rfl rfl rfl hb1 rfl) rfl ?_
  refine oq (op_pick_t (v := .bool _) rfl hb1 rfl) ?_
  refine oq (op_move (v := .bool _) rfl) ?_
  refine ol_skip (wn_some rfl rfl rfl rfl rfl) rfl ?_
  refine ol_skip (wn_some rfl rfl rfl rfl rfl) rfl ?_
  refine oq (op_pick_t (v := .bool _) rfl rfl rfl) ?_
  refine oq (op_move (v := .bool _) rfl) ?_
  refine ol_skip (wn_some rfl rfl rfl rfl rfl) rfl ?_
  refine ol_skip (wn_some rfl rfl rfl rfl rfl) rfl ?_
  refine oq (op_pick_t (v := .bool _) rfl rfl rfl) ?_
  refine ol_nil_then ?_
  refine cd_cond_t rfl rfl ?_
  refine cd_sr ?_
  refine oq (op_assign (v := .pointer _) rfl) ?_
  refine oq (op_assign (v := .bool _) rfl) ?_
  refine ol_nil_then ?_
  refine cd_ret ?_
  refine px_thenR ?_
  exact px_ret2 rfl (v1 := .pointer _) (v2 := .bool _) rfl rfl (fun _ s => (s.del 0)) (.inl ⟨rfl, rfl, by omega⟩)
 ·have hp1 := hb1
  (try simp only [bn] at hp1)
  refine ol_q (wn_some rfl rfl rfl hb1 rfl) (op_move (v := .int _ _) rfl) rfl ?_
  refine ol_q (wn_some rfl rfl rfl hb1 rfl) (op_gt rfl rfl) rfl ?_
  refine oq (op_pick_f (v := .bool _) rfl hb1 rfl) ?_
  refine oq (op_move (v := .bool _) rfl) ?_
  refine ol_split 14 rfl (fun hb2 => ?_) (fun hb2 => ?_)
  ·have hp2 := hb2
   (try simp only [bn] at hp2)
   refine ol_skip (wn_some rfl rfl rfl hb2 rfl) rfl ?_
   refine ol_skip (wn_some rfl rfl rfl hb2 rfl) rfl ?_
   refine oq (op_pick_t (v := .bool _) rfl hb2 rfl) ?_
   refine oq (op_move (v := .bool _) rfl) ?_
   refine ol_skip (wn_some rfl rfl rfl rfl rfl) rfl ?_
   refine ol_skip (wn_some rfl rfl rfl rfl rfl) rfl ?_
   refine oq (op_pick_t (v := .bool _) rfl rfl rfl) ?_
   refine ol_nil_then ?_
   refine cd_cond_t rfl rfl ?_
   refine cd_sr ?_
   refine oq (op_assign (v := .pointer _) rfl) ?_
   refine oq (op_assign (v := .bool _) rfl) ?_
   refine ol_nil_then ?_
   refine cd_ret ?_
   refine px_thenR ?_
   exact px_ret2 rfl (v1 := .pointer _) (v2 := .bool _) rfl rfl (fun _ s => (s.del 0)) (.inl ⟨rfl, rfl, by omega⟩)
  ·have hp2 := hb2
   (try simp only [bn] at hp2)
   refine ol_q (wn_some rfl rfl rfl hb2 rfl) (op_move (v := .int _ _) rfl) rfl ?_
   refine ol_q (wn_some rfl rfl rfl hb2 rfl) (op_lt rfl rfl) rfl ?_
   refine oq (op_pick_f (v := .bool _) rfl hb2 rfl) ?_
   refine oq (op_move (v := .bool _) rfl) ?_
   refine ol_split 18 rfl (fun hb3 => ?_) (fun hb3 => ?_)
   ·have hp3 := hb3
    (try simp only [bn] at hp3)
    refine ol_skip (wn_some rfl rfl rfl hb3 rfl) rfl ?_
    refine ol_skip (wn_some rfl rfl rfl hb3 rfl) rfl ?_
    refine oq (op_pick_t (v := .bool _) rfl hb3 rfl) ?_
    refine ol_nil_then ?_
    refine cd_cond_t rfl rfl ?_
    refine cd_sr ?_
    refine oq (op_assign (v := .pointer _) rfl) ?_
    refine oq (op_assign (v := .bool _) rfl) ?_
    refine ol_nil_then ?_
    refine cd_ret ?_
    refine px_thenR ?_
    exact px_ret2 rfl (v1 := .pointer _) (v2 := .bool _) rfl rfl (fun _ s => (s.del 0)) (.inl ⟨rfl, rfl, by omega⟩)
   ·have hp3 := hb3
    (try simp only [bn] at hp3)
    refine ol_q (wn_some rfl rfl rfl hb3 rfl) (op_move (v := .int _ _) rfl) rfl ?_
    refine ol_q (wn_some rfl rfl rfl hb3 rfl) (op_gt rfl rfl) rfl ?_
    refine oq (op_pick_f (v := .bool _) rfl hb3 rfl) ?_
    refine ol_nil_then ?_
    refine cd_cond rfl (fun hb4 => ?_) (fun hb4 => ?_)
    ·have hp4 := hb4
     (try simp only [bn] at hp4)
     refine cd_sr ?_
     refine oq (op_assign (v := .pointer _) rfl) ?_
     refine oq (op_assign (v := .bool _) rfl) ?_
     refine ol_nil_then ?_
     refine cd_ret ?_
     refine px_thenR ?_
     exact px_ret2 rfl (v1 := .pointer _) (v2 := .bool _) rfl rfl (fun _ s => (s.del 0)) (.inl ⟨rfl, rfl, by omega⟩)
    ·have hp4 := hb4
     (try simp only [bn] at hp4)
     refine cd_skip ?_
     refine px_then ?_
     refine cd_sr ?_
     refine oq (op_lda (L := rootC _) 0 ag_24 rfl rfl (rootC_take' _) (by simp [rootC_len])) ?_
     refine oi (os_bslice (E := encRoot) [_] (ys := [_]) sB_37 zv_24 rfl rfl rfl rfl (by decide)) ?_; rintro _ _ ⟨ao1, rfl, rfl⟩
     refine oq (op_move (v := .int _ _) rfl) ?_
     refine oi (os_bslice (E := encI64) [_] (ys := [_]) sB_42 zv_3 rfl rfl rfl rfl (by decide)) ?_; rintro _ _ ⟨ao2, rfl, rfl⟩
     refine oq (op_buildr rfl rB_24 zBr_24) ?_
     refine oi (os_bslice (E := encRoot) [_] (ys := [_]) sB_37 zv_24 rfl rfl rfl rfl (by decide)) ?_; rintro _ _ ⟨ao3, rfl, rfl⟩
     refine oq (op_move (v := .int _ _) rfl) ?_
     refine oq (op_build (L := [_, _, _, _]) (vs := [(0, .slice _ _ _), (1, .slice _ _ _), (2, .slice _ _ _), (3, .int _ _)]) bB_44 rfl ⟨⟨rfl, rfl⟩, ⟨rfl, rfl⟩, ⟨rfl, rfl⟩, ⟨rfl, rfl⟩, trivial⟩ rfl) ?_
     refine oi (os_boxa rfl) ?_; rintro _ _ ⟨bx2, rfl, rfl⟩
     refine oq (op_assign (v := .pointer _) rfl) ?_
     refine oq (op_assign (v := .bool _) rfl) ?_
     refine ol_nil_then ?_
     refine cd_ret ?_
     exact px_ret2 rfl (v1 := .pointer _) (v2 := .bool _) (l' := RTreeObj _ (TreeS.new r slot most) :: l) rfl rfl (fun _ s => Sat.rtreeMk (t := TreeS.new r slot most) (TreeS.WF.new (by omega) (by omega) (by omega) (by omega)) ⟨rfl, rfl, rfl⟩ rfl rfl rfl (((((s.del 4).pull 1).pull 2).pull 3).pull 3)) (.inr ⟨_, rfl, by omega, rfl⟩)

set_option maxRecDepth 100000 in
set_option maxHeartbeats 1000000 in
theorem RPlaceO_calls {w0 w : World} {l : List HProp} (p : Nat) (a1 : Option Addr) (c1 : Nat) (R : List Root) (x2 x3 x4 : Value) (r : Root) (hs : Sat w0 w ((Blk p (.cells #[.slice a1 R.length c1, x2, x3, x4] 44 (0, 0))) :: (Row 24 encRoot (.slice a1 R.length c1) R) :: l))  :
  Calls Try.prog 49 #[.pointer (some ⟨p, 0, none⟩), .agg (rootC r).toArray] w (Ret w0 fun v l' => v = .int .i64 (rplace R r) ∧ l' = Blk p (.cells #[.slice a1 R.length c1, x2, x3, x4] 44 (0, 0)) :: Row 24 encRoot (.slice a1 R.length c1) R :: l) := by
 have hRm := (hs.pull 1).rowMax; unfold maxLen at hRm
 refine calls_enter Try.func49 rfl rfl rfl hs ?_
 refine cd_sr ?_
 refine oi (os_boxa rfl) ?_; rintro _ _ ⟨bx1, rfl, rfl⟩
 refine oq (op_assign (v := .int _ _) rfl) ?_
 refine ol_nil_then ?_
 refine cd_seq ?_
 refine cd_sr ?_
 refine oq (op_move (v := .pointer _) rfl) ?_
 refine oq (op_nilck rfl) ?_
 refine oq (op_field fld_44_0 rfl) ?_
 refine oq (op_ld 1 sc_37 rfl rfl rfl) ?_
 refine oq (op_len_slice Try.underlying37 rfl) ?_
 refine oq (op_move (v := .int _ _) rfl) ?_
 refine ol_nil_then ?_
 refine cd_block ?_
 refine cd_loop2 (α := Nat) [(4, 6), (12, 21)] (fun x => [(12, .int .i64 (x : Int))]) (fun _ => _) (fun x => x ≤ R.length ∧ ∀ j (h : j < R.length), j < x → R[j] ≠ r) (fun x => R.length - x) 0 ⟨Nat.zero_le _, fun j h h2 => absurd h2 (Nat.not_lt_zero _)⟩ ⟨rfl, trivial⟩ (fun _ s => s) ?_
 rintro i ⟨hi, hno⟩ f; (try dsimp only at hi hno ⊢)
 refine cd_sr ?_
 refine oq (op_lt rfl rfl) ?_
 refine ol_nil_then ?_
 refine cd_seq ?_
 refine cd_cond rfl (fun hb1 => ?_) (fun hb1 => ?_)
 ·have hp1 := hb1
  (try simp only [bn] at hp1)
  refine cd_skip ?_
  refine px_then ?_
  refine cd_seq ?_
  refine cd_block ?_
  refine cd_sr ?_
  refine oq (op_move (v := .int _ _) rfl) ?_
  refine oq (op_index _ sB_37 rfl rfl rfl (rds_row 2 rfl rfl) rfl (by omega)) ?_
  refine oq (op_ldaw (L := rootC _) ag_24 (rds_row 2 rfl rfl) rfl (by omega) rfl (rootC_ta _)) ?_
  refine oi (os_alloc (cs := (rootC Root.zero).toArray) zB_24 (by kernel_rfl)) ?_; rintro _ _ ⟨bx2, rfl, rfl⟩
  refine oq (op_assign (v := .int _ _) rfl) ?_
  refine oN (os_storera _ ag_24 rfl rfl (Free.zero _)) ?_; rintro _ _ ⟨rfl, rfl⟩
  refine ol_nil_then ?_
  refine cd_sr ?_
  refine oq (op_lda (L := rootC _) 0 ag_24 rfl rfl (rootC_take' _) (by simp [rootC_len])) ?_
  refine oq (op_lda (L := rootC _) 1 ag_24 rfl rfl (rootC_take' _) (by simp [rootC_len])) ?_
  refine oq (op_eqroot _ _ rB_24 rfl rfl) ?_
  refine ol_nil_then ?_
  refine cd_cond rfl (fun hb2 => ?_) (fun hb2 => ?_)
  ·have hp2 := hb2
   (try simp only [bn] at hp2)
   have hrr := of_decide_eq_true hb2
   refine cd_sr ?_
   refine oq (op_move (v := .int _ _) rfl) ?_
   refine oq (op_assign (v := .int _ _) rfl) ?_
   refine ol_nil_then ?_
   refine cd_ret ?_
   refine px_blockR ?_
   refine px_thenR ?_
   refine px_thenR ?_
   refine px_blockR ?_
   refine px_thenR ?_
   have e : rplace R r = i := by unfold rplace; rw [ridx_first (by omega) hrr hno]
   exact px_ret1 rfl (v := .int _ _) rfl (fun _ s => ((s.del 1).del 0)) ⟨congrArg (Value.int .i64) e.symm, rfl⟩
  ·have hp2 := hb2
   (try simp only [bn] at hp2)
   have hnr := of_decide_eq_false hb2
   refine cd_skip ?_
   refine px_blockN ?_
   refine px_then ?_
   refine cd_region ?_
   refine oq (op_add rfl rfl (by omega) (by omega)) ?_
   refine oq (op_move (v := .int _ _) rfl) ?_
   refine ol_nil ?_
   refine px_loop2 (i + 1) ⟨by omega, fun j h h2 => by rcases Nat.lt_succ_iff_lt_or_eq.1 h2 with h3 | h3; exact hno j h h3; subst h3; exact hnr⟩ (by (try dsimp only); omega) ⟨congrArg (Value.int .i64) (by simp), trivial⟩ ?_ (fun _ s => (s.del 0))
   repeat (first | exact kept_over | refine kept_upd rfl ?_ | refine kept_overS (by decide) ?_)
 ·have hp1 := hb1
  (try simp only [bn] at hp1)
  refine cd_exit ?_
  refine px_thenE ?_
  refine px_thenE ?_
  refine px_blockE ?_
  refine px_then ?_
  refine cd_sr ?_
  refine oq (op_assign (v := .int _ _) rfl) ?_
  refine ol_nil_then ?_
  refine cd_ret ?_
  have e : rplace R r = -1 := by unfold rplace; rw [ridx_no fun j hj => hno j hj (by omega)]
  exact px_ret1 rfl (v := .int _ _) rfl (fun _ s => (s.del 0)) ⟨congrArg (Value.int .i64) e.symm, rfl⟩

set_option maxRecDepth 100000 in
set_option maxHeartbeats 1000000 in
theorem RPlace_calls {w0 w : World} {l : List HProp} (p : Nat) (t : TreeS) (r : Root) (hs : Sat w0 w ((RTreeObj p t) :: l))  :
  Calls Try.prog 49 #[.pointer (some ⟨p, 0, none⟩), .agg (rootC r).toArray] w (Ret w0 fun v l' => v = .int .i64 (t.place r) ∧ l' = RTreeObj p t :: l) := by
 obtain ⟨a1, c1, a2, c2, a3, c3, R, Sl, Pa, hw, hR, hs⟩ := hs.rtreeOpen
 have hm1 := hw.m1; have hm2 := hw.m2; have hle := hw.le; have hne := hw.ne
 have hRl : R.length = t.nodes.length := by rw [hR.r, List.length_map]
 have hSl : Sl.length = t.nodes.length := by rw [hR.s, List.length_map]
 have hPl : Pa.length = t.nodes.length := by rw [hR.p]; unfold parR; rw [List.length_map]
 refine calls_enter Try.func49 rfl rfl rfl hs ?_
 refine cd_sr ?_
 refine oi (os_boxa rfl) ?_; rintro _ _ ⟨bx1, rfl, rfl⟩
 refine oq (op_assign (v := .int _ _) rfl) ?_
 refine ol_nil_then ?_
 refine cd_seq ?_
 refine cd_sr ?_
 refine oq (op_move (v := .pointer _) rfl) ?_
 refine oq (op_nilck rfl) ?_
 refine oq (op_field fld_44_0 rfl) ?_
 refine oq (op_ld 1 sc_37 rfl rfl rfl) ?_
 refine oq (op_len_slice Try.underlying37 rfl) ?_
 refine oq (op_move (v := .int _ _) rfl) ?_
 refine ol_nil_then ?_
 refine cd_block ?_
 refine cd_loop2 (α := Nat) [(4, 6), (12, 21)] (fun x => [(12, .int .i64 (x : Int))]) (fun _ => _) (fun x => x ≤ R.length ∧ ∀ j (h : j < R.length), j < x → R[j] ≠ r) (fun x => R.length - x) 0 ⟨Nat.zero_le _, fun j h h2 => absurd h2 (Nat.not_lt_zero _)⟩ ⟨rfl, trivial⟩ (fun _ s => s) ?_
 rintro i ⟨hi, hno⟩ f; (try dsimp only at hi hno ⊢)
 refine cd_sr ?_
 refine oq (op_lt rfl rfl) ?_
 refine ol_nil_then ?_
 refine cd_seq ?_
 refine cd_cond rfl (fun hb1 => ?_) (fun hb1 => ?_)
 ·have hp1 := hb1
  (try simp only [bn] at hp1)
  refine cd_skip ?_
  refine px_then ?_
  refine cd_seq ?_
  refine cd_block ?_
  refine cd_sr ?_
  refine oq (op_move (v := .int _ _) rfl) ?_
  refine oq (op_index _ sB_37 rfl rfl rfl (rds_row 2 rfl rfl) rfl (by omega)) ?_
  refine oq (op_ldaw (L := rootC _) ag_24 (rds_row 2 rfl rfl) rfl (by omega) rfl (rootC_ta _)) ?_
  refine oi (os_alloc (cs := (rootC Root.zero).toArray) zB_24 (by kernel_rfl)) ?_; rintro _ _ ⟨bx2, rfl, rfl⟩
  refine oq (op_assign (v := .int _ _) rfl) ?_
  refine oN (os_storera _ ag_24 rfl rfl (Free.zero _)) ?_; rintro _ _ ⟨rfl, rfl⟩
  refine ol_nil_then ?_
  refine cd_sr ?_
  refine oq (op_lda (L := rootC _) 0 ag_24 rfl rfl (rootC_take' _) (by simp [rootC_len])) ?_
  refine oq (op_lda (L := rootC _) 1 ag_24 rfl rfl (rootC_take' _) (by simp [rootC_len])) ?_
  refine oq (op_eqroot _ _ rB_24 rfl rfl) ?_
  refine ol_nil_then ?_
  refine cd_cond rfl (fun hb2 => ?_) (fun hb2 => ?_)
  ·have hp2 := hb2
   (try simp only [bn] at hp2)
   have hrr := of_decide_eq_true hb2
   refine cd_sr ?_
   refine oq (op_move (v := .int _ _) rfl) ?_
   refine oq (op_assign (v := .int _ _) rfl) ?_
   refine ol_nil_then ?_
   refine cd_ret ?_
   refine px_blockR ?_
   refine px_thenR ?_
   refine px_thenR ?_
   refine px_blockR ?_
   refine px_thenR ?_
   have e : rplace R r = i := by unfold rplace; rw [ridx_first (by omega) hrr hno]
   rw [hR.r, rplace_map] at e
   exact px_ret1 rfl (v := .int _ _) (l' := RTreeObj p t :: l) rfl (fun _ s => Sat.rtreeMk (t := t) hw hR (by simp) (by simp) (by simp) ((s.del 1).del 0)) ⟨congrArg (Value.int .i64) e.symm, rfl⟩
  ·have hp2 := hb2
   (try simp only [bn] at hp2)
   have hnr := of_decide_eq_false hb2
   refine cd_skip ?_
   refine px_blockN ?_
   refine px_then ?_
   refine cd_region ?_
   refine oq (op_add rfl rfl (by omega) (by omega)) ?_
   refine oq (op_move (v := .int _ _) rfl) ?_
   refine ol_nil ?_
   refine px_loop2 (i + 1) ⟨by omega, fun j h h2 => by rcases Nat.lt_succ_iff_lt_or_eq.1 h2 with h3 | h3; exact hno j h h3; subst h3; exact hnr⟩ (by (try dsimp only); omega) ⟨congrArg (Value.int .i64) (by simp), trivial⟩ ?_ (fun _ s => (s.del 0))
   repeat (first | exact kept_over | refine kept_upd rfl ?_ | refine kept_overS (by decide) ?_)
 ·have hp1 := hb1
  (try simp only [bn] at hp1)
  refine cd_exit ?_
  refine px_thenE ?_
  refine px_thenE ?_
  refine px_blockE ?_
  refine px_then ?_
  refine cd_sr ?_
  refine oq (op_assign (v := .int _ _) rfl) ?_
  refine ol_nil_then ?_
  refine cd_ret ?_
  have e : rplace R r = -1 := by unfold rplace; rw [ridx_no fun j hj => hno j hj (by omega)]
  rw [hR.r, rplace_map] at e
  exact px_ret1 rfl (v := .int _ _) (l' := RTreeObj p t :: l) rfl (fun _ s => Sat.rtreeMk (t := t) hw hR (by simp) (by simp) (by simp) (s.del 0)) ⟨congrArg (Value.int .i64) e.symm, rfl⟩

set_option maxRecDepth 100000 in
set_option maxHeartbeats 1000000 in
theorem RUp_calls {w0 w : World} {l : List HProp} (p : Nat) (t : TreeS) (i : Int) (hs : Sat w0 w ((RTreeObj p t) :: l))  :
  Calls Try.prog 25 #[.pointer (some ⟨p, 0, none⟩), .int .i64 i] w (Ret w0 fun v l' => v = .int .i64 (t.up i) ∧ l' = RTreeObj p t :: l) := by
 obtain ⟨a1, c1, a2, c2, a3, c3, R, Sl, Pa, hw, hR, hs⟩ := hs.rtreeOpen
 have hm1 := hw.m1; have hm2 := hw.m2; have hle := hw.le; have hne := hw.ne
 have hRl : R.length = t.nodes.length := by rw [hR.r, List.length_map]
 have hSl : Sl.length = t.nodes.length := by rw [hR.s, List.length_map]
 have hPl : Pa.length = t.nodes.length := by rw [hR.p]; unfold parR; rw [List.length_map]
 refine calls_enter Try.func25 rfl rfl rfl hs ?_
 refine cd_sr ?_
 refine oq (op_assign (v := .int _ _) rfl) ?_
 refine ol_nil_then ?_
 refine cd_seq ?_
 refine cd_sr ?_
 refine oq (op_move (v := .int _ _) rfl) ?_
 refine oq (op_le rfl rfl) ?_
 refine oq (op_move (v := .bool _) rfl) ?_
 refine ol_split 7 rfl (fun hb1 => ?_) (fun hb1 => ?_)
 ·have hp1 := hb1
  (try simp only [bn] at hp1)
  refine ol_skip (wn_some rfl rfl rfl hb1 rfl) rfl ?_
  refine ol_skip (wn_some rfl rfl rfl hb1 rfl) rfl ?_
  refine ol_skip (wn_some rfl rfl rfl hb1 rfl) rfl ?_
  refine ol_skip (wn_some rfl rfl rfl hb1 rfl) rfl ?_
  refine ol_skip (wn_some rfl rfl rfl hb1 rfl) rfl ?_
  refine ol_skip (wn_some rfl rfl rfl hb1 rfl) rfl ?_
  refine ol_skip (wn_some rfl rfl rfl hb1 rfl) rfl ?_
  refine oq (op_pick_t (v := .bool _) rfl hb1 rfl) ?_
  refine ol_nil_then ?_
  refine cd_cond_t rfl rfl ?_
  refine cd_sr ?_
  refine oq (op_assign (v := .int _ _) rfl) ?_
  refine ol_nil_then ?_
  refine cd_ret ?_
  refine px_thenR ?_
  have e : t.up i = -1 := TreeS.up_out hw (by omega)
  exact px_ret1 rfl (v := .int _ _) (l' := RTreeObj p t :: l) rfl (fun _ s => Sat.rtreeMk (t := t) hw hR (by simp) (by simp) (by simp) s) ⟨congrArg (Value.int .i64) e.symm, rfl⟩
 ·have hp1 := hb1
  (try simp only [bn] at hp1)
  refine ol_q (wn_some rfl rfl rfl hb1 rfl) (op_move (v := .int _ _) rfl) rfl ?_
  refine ol_q (wn_some rfl rfl rfl hb1 rfl) (op_move (v := .pointer _) rfl) rfl ?_
  refine ol_q (wn_some rfl rfl rfl hb1 rfl) (op_nilck rfl) rfl ?_
  refine ol_q (wn_some rfl rfl rfl hb1 rfl) (op_field fld_44_0 rfl) rfl ?_
  refine ol_q (wn_some rfl rfl rfl hb1 rfl) (op_ld 0 sc_37 rfl rfl rfl) rfl ?_
  refine ol_q (wn_some rfl rfl rfl hb1 rfl) (op_len_slice Try.underlying37 rfl) rfl ?_
  refine ol_q (wn_some rfl rfl rfl hb1 rfl) (op_ge rfl rfl) rfl ?_
  refine oq (op_pick_f (v := .bool _) rfl hb1 rfl) ?_
  refine ol_nil_then ?_
  refine cd_cond rfl (fun hb2 => ?_) (fun hb2 => ?_)
  ·have hp2 := hb2
   (try simp only [bn] at hp2)
   refine cd_sr ?_
   refine oq (op_assign (v := .int _ _) rfl) ?_
   refine ol_nil_then ?_
   refine cd_ret ?_
   refine px_thenR ?_
   have e : t.up i = -1 := TreeS.up_out hw (by omega)
   exact px_ret1 rfl (v := .int _ _) (l' := RTreeObj p t :: l) rfl (fun _ s => Sat.rtreeMk (t := t) hw hR (by simp) (by simp) (by simp) s) ⟨congrArg (Value.int .i64) e.symm, rfl⟩
  ·have hp2 := hb2
   (try simp only [bn] at hp2)
   obtain ⟨i0, rfl⟩ : ∃ i0 : Nat, i = i0 := ⟨i.toNat, by omega⟩
   refine cd_skip ?_
   refine px_then ?_
   refine cd_sr ?_
   refine oq (op_move (v := .pointer _) rfl) ?_
   refine oq (op_move (v := .pointer _) rfl) ?_
   refine oq (op_nilck rfl) ?_
   refine oq (op_field fld_44_2 rfl) ?_
   refine oq (op_ld 0 sc_37 rfl rfl rfl) ?_
   refine oq (op_move (v := .int _ _) rfl) ?_
   refine oq (op_index i0 sB_37 rfl rfl rfl (rds_row 3 rfl rfl) rfl (by omega)) ?_
   refine oq (op_ldaw (L := rootC _) ag_24 (rds_row 3 rfl rfl) rfl (by omega) rfl (rootC_ta _)) ?_
   refine ol_pull1 ?_
   refine ol_pull1 ?_
   refine oi (os_call cb_49 rfl (fun w s => RPlaceO_calls _ _ _ _ _ _ _ _  s )) ?_; rintro _ _ ⟨rfl, rfl⟩
   refine oq (op_assign (v := .int _ _) rfl) ?_
   refine ol_nil_then ?_
   refine cd_ret ?_
   have e : t.up (i0 : Int) = rplace R Pa[i0] := by simp only [hR.r, hR.p]; exact (up_eq hw (by omega) (by omega) (by unfold parR; rw [List.length_map]; omega)).symm
   exact px_ret1 rfl (v := .int _ _) (l' := RTreeObj p t :: l) rfl (fun _ s => Sat.rtreeMk (t := t) hw hR (by simp) (by simp) (by simp) s) ⟨congrArg (Value.int .i64) e.symm, rfl⟩

set_option maxRecDepth 100000 in
set_option maxHeartbeats 1000000 in
theorem RUpO_calls {w0 w : World} {l : List HProp} (p : Nat) (t : TreeS) (a1 a2 a3 : Option Addr) (c1 c2 c3 : Nat) (R : List Root) (Sl : List Int) (Pa : List Root) (i : Int) (hs : Sat w0 w ((Blk p (.cells #[.slice a1 R.length c1, .slice a2 Sl.length c2, .slice a3 Pa.length c3, .int .i64 t.most] 44 (0, 0))) :: (Row 24 encRoot (.slice a1 R.length c1) R) :: (Row 3 encI64 (.slice a2 Sl.length c2) Sl) :: (Row 24 encRoot (.slice a3 Pa.length c3) Pa) :: l)) (hw : t.WF) (hR : RTreeOf t R Sl Pa) :
  Calls Try.prog 25 #[.pointer (some ⟨p, 0, none⟩), .int .i64 i] w (Ret w0 fun v l' => v = .int .i64 (t.up i) ∧ l' = Blk p (.cells #[.slice a1 R.length c1, .slice a2 Sl.length c2, .slice a3 Pa.length c3, .int .i64 t.most] 44 (0, 0)) :: Row 24 encRoot (.slice a1 R.length c1) R :: Row 3 encI64 (.slice a2 Sl.length c2) Sl :: Row 24 encRoot (.slice a3 Pa.length c3) Pa :: l) := by
 have hRl : R.length = t.nodes.length := by rw [hR.r, List.length_map]
 have hPl : Pa.length = t.nodes.length := by rw [hR.p]; unfold parR; rw [List.length_map]
 refine calls_enter Try.func25 rfl rfl rfl hs ?_
 refine cd_sr ?_
 refine oq (op_assign (v := .int _ _) rfl) ?_
 refine ol_nil_then ?_
 refine cd_seq ?_
 refine cd_sr ?_
 refine oq (op_move (v := .int _ _) rfl) ?_
 refine oq (op_le rfl rfl) ?_
 refine oq (op_move (v := .bool _) rfl) ?_
 refine ol_split 7 rfl (fun hb1 => ?_) (fun hb1 => ?_)
 ·have hp1 := hb1
  (try simp only [bn] at hp1)
  refine ol_skip (wn_some rfl rfl rfl hb1 rfl) rfl ?_
  refine ol_skip (wn_some rfl rfl rfl hb1 rfl) rfl ?_
  refine ol_skip (wn_some rfl rfl rfl hb1 rfl) rfl ?_
  refine ol_skip (wn_some rfl rfl rfl hb1 rfl) rfl ?_
  refine ol_skip (wn_some rfl rfl rfl hb1 rfl) rfl ?_
  refine ol_skip (wn_some rfl rfl rfl hb1 rfl) rfl ?_
  refine ol_skip (wn_some rfl rfl rfl hb1 rfl) rfl ?_
  refine oq (op_pick_t (v := .bool _) rfl hb1 rfl) ?_
  refine ol_nil_then ?_
  refine cd_cond_t rfl rfl ?_
  refine cd_sr ?_
  refine oq (op_assign (v := .int _ _) rfl) ?_
  refine ol_nil_then ?_
  refine cd_ret ?_
  refine px_thenR ?_
  have e : t.up i = -1 := TreeS.up_out hw (by omega)
  exact px_ret1 rfl (v := .int _ _) rfl (fun _ s => s) ⟨congrArg (Value.int .i64) e.symm, rfl⟩
 ·have hp1 := hb1
  (try simp only [bn] at hp1)
  refine ol_q (wn_some rfl rfl rfl hb1 rfl) (op_move (v := .int _ _) rfl) rfl ?_
  refine ol_q (wn_some rfl rfl rfl hb1 rfl) (op_move (v := .pointer _) rfl) rfl ?_
  refine ol_q (wn_some rfl rfl rfl hb1 rfl) (op_nilck rfl) rfl ?_
  refine ol_q (wn_some rfl rfl rfl hb1 rfl) (op_field fld_44_0 rfl) rfl ?_
  refine ol_q (wn_some rfl rfl rfl hb1 rfl) (op_ld 0 sc_37 rfl rfl rfl) rfl ?_
  refine ol_q (wn_some rfl rfl rfl hb1 rfl) (op_len_slice Try.underlying37 rfl) rfl ?_
  refine ol_q (wn_some rfl rfl rfl hb1 rfl) (op_ge rfl rfl) rfl ?_
  refine oq (op_pick_f (v := .bool _) rfl hb1 rfl) ?_
  refine ol_nil_then ?_
  refine cd_cond rfl (fun hb2 => ?_) (fun hb2 => ?_)
  ·have hp2 := hb2
   (try simp only [bn] at hp2)
   refine cd_sr ?_
   refine oq (op_assign (v := .int _ _) rfl) ?_
   refine ol_nil_then ?_
   refine cd_ret ?_
   refine px_thenR ?_
   have e : t.up i = -1 := TreeS.up_out hw (by omega)
   exact px_ret1 rfl (v := .int _ _) rfl (fun _ s => s) ⟨congrArg (Value.int .i64) e.symm, rfl⟩
  ·have hp2 := hb2
   (try simp only [bn] at hp2)
   obtain ⟨i0, rfl⟩ : ∃ i0 : Nat, i = i0 := ⟨i.toNat, by omega⟩
   refine cd_skip ?_
   refine px_then ?_
   refine cd_sr ?_
   refine oq (op_move (v := .pointer _) rfl) ?_
   refine oq (op_move (v := .pointer _) rfl) ?_
   refine oq (op_nilck rfl) ?_
   refine oq (op_field fld_44_2 rfl) ?_
   refine oq (op_ld 0 sc_37 rfl rfl rfl) ?_
   refine oq (op_move (v := .int _ _) rfl) ?_
   refine oq (op_index i0 sB_37 rfl rfl rfl (rds_row 3 rfl rfl) rfl (by omega)) ?_
   refine oq (op_ldaw (L := rootC _) ag_24 (rds_row 3 rfl rfl) rfl (by omega) rfl (rootC_ta _)) ?_
   refine ol_pull1 ?_
   refine ol_pull1 ?_
   refine oi (os_call cb_49 rfl (fun w s => RPlaceO_calls _ _ _ _ _ _ _ _  s )) ?_; rintro _ _ ⟨rfl, rfl⟩
   refine oq (op_assign (v := .int _ _) rfl) ?_
   refine ol_nil_then ?_
   refine cd_ret ?_
   have e : t.up (i0 : Int) = rplace R Pa[i0] := by simp only [hR.r, hR.p]; exact (up_eq hw (by omega) (by omega) (by unfold parR; rw [List.length_map]; omega)).symm
   exact px_ret1 rfl (v := .int _ _) rfl (fun _ s => s) ⟨congrArg (Value.int .i64) e.symm, rfl⟩

set_option maxRecDepth 100000 in
set_option maxHeartbeats 1000000 in
theorem RAdd_calls {w0 w : World} {l : List HProp} (p : Nat) (t : TreeS) (r q : Root) (slot : Int) (hs : Sat w0 w ((RTreeObj p t) :: l))  :
  Calls Try.prog 48 #[.pointer (some ⟨p, 0, none⟩), .agg (rootC r).toArray, .agg (rootC q).toArray, .int .i64 slot] w (Ret w0 fun v l' => v = .int .i64 (t.add r q slot).1 ∧ l' = RTreeObj p (t.add r q slot).2 :: l) := by
 obtain ⟨a1, c1, a2, c2, a3, c3, R, Sl, Pa, hw, hR, hs⟩ := hs.rtreeOpen
 have hm1 := hw.m1; have hm2 := hw.m2; have hle := hw.le; have hne := hw.ne
 have hRl : R.length = t.nodes.length := by rw [hR.r, List.length_map]
 have hSl : Sl.length = t.nodes.length := by rw [hR.s, List.length_map]
 have hPl : Pa.length = t.nodes.length := by rw [hR.p]; unfold parR; rw [List.length_map]
 have hp1 : rplace R r = t.place r := by rw [hR.r, rplace_map]
 have hp2 : rplace R q = t.place q := by rw [hR.r, rplace_map]
 refine calls_enter Try.func48 rfl rfl rfl hs ?_
 refine cd_sr ?_
 refine oi (os_boxa rfl) ?_; rintro _ _ ⟨bx1, rfl, rfl⟩
 refine oi (os_boxa rfl) ?_; rintro _ _ ⟨bx2, rfl, rfl⟩
 refine oq (op_assign (v := .int _ _) rfl) ?_
 refine ol_nil_then ?_
 refine cd_seq ?_
 refine cd_sr ?_
 refine oq (op_move (v := .pointer _) rfl) ?_
 refine oq (op_lda (L := rootC _) 1 ag_24 rfl rfl (rootC_take' _) (by simp [rootC_len])) ?_
 refine ol_pull3 ?_
 refine ol_pull3 ?_
 refine oi (os_call cb_49 rfl (fun w s => RPlaceO_calls _ _ _ _ _ _ _ _  s )) ?_; rintro _ _ ⟨rfl, rfl⟩; simp only [hp1]
 refine oq (op_ge rfl rfl) ?_
 refine ol_nil_then ?_
 refine cd_cond rfl (fun hb1 => ?_) (fun hb1 => ?_)
 ·have hp1 := hb1
  (try simp only [bn] at hp1)
  have hr1 : (idxOf t.nodes r).isSome = true := TreeS.place_iff.1 (of_decide_eq_true hb1)
  refine cd_sr ?_
  refine oq (op_assign (v := .int _ _) rfl) ?_
  refine ol_nil_then ?_
  refine cd_ret ?_
  refine px_thenR ?_
  have e : t.add r q slot = (4, t) := by unfold TreeS.add; rw [if_pos hr1]
  rw [e]
  exact px_ret1 rfl (v := .int _ _) (l' := RTreeObj p t :: l) rfl (fun _ s => Sat.rtreeMk (t := t) hw hR (by simp) (by simp) (by simp) ((s.del 3).del 2)) ⟨rfl, rfl⟩
 ·have hp1 := hb1
  (try simp only [bn] at hp1)
  have hr1 : ¬ (idxOf t.nodes r).isSome = true := fun h => absurd (TreeS.place_iff.2 h) (of_decide_eq_false hb1)
  refine cd_skip ?_
  refine px_then ?_
  refine cd_sr ?_
  refine oq (op_move (v := .pointer _) rfl) ?_
  refine oq (op_lda (L := rootC _) 2 ag_24 rfl rfl (rootC_take' _) (by simp [rootC_len])) ?_
  refine ol_pull1 ?_
  refine ol_pull1 ?_
  refine oi (os_call cb_49 rfl (fun w s => RPlaceO_calls _ _ _ _ _ _ _ _  s )) ?_; rintro _ _ ⟨rfl, rfl⟩; simp only [hp2]
  refine oq (op_assign (v := .int _ _) rfl) ?_
  refine ol_nil_then ?_
  refine cd_seq ?_
  refine cd_sr ?_
  refine oq (op_move (v := .int _ _) rfl) ?_
  refine oq (op_lt rfl rfl) ?_
  refine oq (op_move (v := .bool _) rfl) ?_
  refine ol_split 19 rfl (fun hb2 => ?_) (fun hb2 => ?_)
  ·have hp2 := hb2
   (try simp only [bn] at hp2)
   have hq0 := TreeS.place_none (of_decide_eq_true hb2)
   have hcase : (match idxOf t.nodes q with | none => (5, t) | some j => if slot ≤ ((t.nodes[j]?).getD nodeNo).slot ∨ 1073741824 < slot then (5, t) else if t.most ≤ t.nodes.length then (6, t) else (0, { t with nodes := t.nodes ++ [⟨r, slot, (j : Int)⟩] })) = ((5 : Int), t) := by rw [hq0]
   refine ol_skip (wn_some rfl rfl rfl hb2 rfl) rfl ?_
   refine ol_skip (wn_some rfl rfl rfl hb2 rfl) rfl ?_
   refine ol_skip (wn_some rfl rfl rfl hb2 rfl) rfl ?_
   refine ol_skip (wn_some rfl rfl rfl hb2 rfl) rfl ?_
   refine ol_skip (wn_some rfl rfl rfl hb2 rfl) rfl ?_
   refine ol_skip (wn_some rfl rfl rfl hb2 rfl) rfl ?_
   refine ol_skip (wn_some rfl rfl rfl hb2 rfl) rfl ?_
   refine ol_skip (wn_some rfl rfl rfl hb2 rfl) rfl ?_
   refine ol_skip (wn_some rfl rfl rfl hb2 rfl) rfl ?_
   refine oq (op_pick_t (v := .bool _) rfl hb2 rfl) ?_
   refine oq (op_move (v := .bool _) rfl) ?_
   refine ol_skip (wn_some rfl rfl rfl rfl rfl) rfl ?_
   refine ol_skip (wn_some rfl rfl rfl rfl rfl) rfl ?_
   refine oq (op_pick_t (v := .bool _) rfl rfl rfl) ?_
   refine ol_nil_then ?_
   refine cd_cond_t rfl rfl ?_
   refine cd_sr ?_
   refine oq (op_assign (v := .int _ _) rfl) ?_
   refine ol_nil_then ?_
   refine cd_ret ?_
   refine px_thenR ?_
   have e : t.add r q slot = (5, t) := by unfold TreeS.add; rw [if_neg hr1]; exact hcase
   rw [e]
   exact px_ret1 rfl (v := .int _ _) (l' := RTreeObj p t :: l) rfl (fun _ s => Sat.rtreeMk (t := t) hw hR (by simp) (by simp) (by simp) ((s.del 3).del 2)) ⟨rfl, rfl⟩
  ·have hp2 := hb2
   (try simp only [bn] at hp2)
   obtain ⟨j, hqj, hpj⟩ := TreeS.place_some (t := t) (r := q) (by omega)
   obtain ⟨m0, hm0, hmq⟩ := idxOf_some hqj
   have hjl := idxOf_lt hqj
   have hgs : Sl[j] = m0.slot := by simp only [hR.s, List.getElem_map]; rw [(List.getElem_eq_iff (by omega)).2 hm0]
   refine ol_q (wn_some rfl rfl rfl hb2 rfl) (op_move (v := .pointer _) rfl) rfl ?_
   refine ol_q (wn_some rfl rfl rfl hb2 rfl) (op_nilck rfl) rfl ?_
   refine ol_q (wn_some rfl rfl rfl hb2 rfl) (op_field fld_44_1 rfl) rfl ?_
   refine ol_q (wn_some rfl rfl rfl hb2 rfl) (op_ld 0 sc_42 rfl rfl rfl) rfl ?_
   refine ol_q (wn_some rfl rfl rfl hb2 rfl) (op_move (v := .int _ _) rfl) rfl ?_
   refine ol_q (wn_some rfl rfl rfl hb2 rfl) (op_index j sB_42 rfl rfl hpj (rds_row 4 rfl rfl) rfl (by omega)) rfl ?_
   refine ol_q (wn_some rfl rfl rfl hb2 rfl) (op_ldw sc_3 (rds_row 4 rfl rfl) rfl (by omega) rfl) rfl ?_
   refine ol_q (wn_some rfl rfl rfl hb2 rfl) (op_move (v := .int _ _) rfl) rfl ?_
   refine ol_q (wn_some rfl rfl rfl hb2 rfl) (op_ge rfl rfl) rfl ?_
   refine oq (op_pick_f (v := .bool _) rfl hb2 rfl) ?_
   refine oq (op_move (v := .bool _) rfl) ?_
   refine ol_split 30 rfl (fun hb3 => ?_) (fun hb3 => ?_)
   ·have hp3 := hb3
    (try simp only [bn] at hp3)
    have hcase : (match idxOf t.nodes q with | none => (5, t) | some j => if slot ≤ ((t.nodes[j]?).getD nodeNo).slot ∨ 1073741824 < slot then (5, t) else if t.most ≤ t.nodes.length then (6, t) else (0, { t with nodes := t.nodes ++ [⟨r, slot, (j : Int)⟩] })) = ((5 : Int), t) := by rw [hqj]; simp only [hm0, Option.getD_some]; rw [if_pos (.inl (by rw [← hgs]; exact of_decide_eq_true hb3))]
    refine ol_skip (wn_some rfl rfl rfl hb3 rfl) rfl ?_
    refine ol_skip (wn_some rfl rfl rfl hb3 rfl) rfl ?_
    refine oq (op_pick_t (v := .bool _) rfl hb3 rfl) ?_
    refine ol_nil_then ?_
    refine cd_cond_t rfl rfl ?_
    refine cd_sr ?_
    refine oq (op_assign (v := .int _ _) rfl) ?_
    refine ol_nil_then ?_
    refine cd_ret ?_
    refine px_thenR ?_
    have e : t.add r q slot = (5, t) := by unfold TreeS.add; rw [if_neg hr1]; exact hcase
    rw [e]
    exact px_ret1 rfl (v := .int _ _) (l' := RTreeObj p t :: l) rfl (fun _ s => Sat.rtreeMk (t := t) hw hR (by simp) (by simp) (by simp) ((s.del 3).del 2)) ⟨rfl, rfl⟩
   ·have hp3 := hb3
    (try simp only [bn] at hp3)
    refine ol_q (wn_some rfl rfl rfl hb3 rfl) (op_move (v := .int _ _) rfl) rfl ?_
    refine ol_q (wn_some rfl rfl rfl hb3 rfl) (op_gt rfl rfl) rfl ?_
    refine oq (op_pick_f (v := .bool _) rfl hb3 rfl) ?_
    refine ol_nil_then ?_
    refine cd_cond rfl (fun hb4 => ?_) (fun hb4 => ?_)
    ·have hp4 := hb4
     (try simp only [bn] at hp4)
     have hcase : (match idxOf t.nodes q with | none => (5, t) | some j => if slot ≤ ((t.nodes[j]?).getD nodeNo).slot ∨ 1073741824 < slot then (5, t) else if t.most ≤ t.nodes.length then (6, t) else (0, { t with nodes := t.nodes ++ [⟨r, slot, (j : Int)⟩] })) = ((5 : Int), t) := by rw [hqj]; simp only [hm0, Option.getD_some]; rw [if_pos (.inr (of_decide_eq_true hb4))]
     refine cd_sr ?_
     refine oq (op_assign (v := .int _ _) rfl) ?_
     refine ol_nil_then ?_
     refine cd_ret ?_
     refine px_thenR ?_
     have e : t.add r q slot = (5, t) := by unfold TreeS.add; rw [if_neg hr1]; exact hcase
     rw [e]
     exact px_ret1 rfl (v := .int _ _) (l' := RTreeObj p t :: l) rfl (fun _ s => Sat.rtreeMk (t := t) hw hR (by simp) (by simp) (by simp) ((s.del 3).del 2)) ⟨rfl, rfl⟩
    ·have hp4 := hb4
     (try simp only [bn] at hp4)
     have hsl : ¬ (slot ≤ m0.slot ∨ 1073741824 < slot) := by rw [← hgs]; omega
     refine cd_skip ?_
     refine px_then ?_
     refine cd_seq ?_
     refine cd_seq ?_
     refine cd_draw (M := []) mx [] (by kernel_rfl) ?_
     refine rg_q (wn_none rfl) (op_move (v := .pointer _) rfl) rfl rfl ?_
     refine rg_q (wn_none rfl) (op_nilck rfl) rfl rfl ?_
     refine rg_q (wn_none rfl) (op_field fld_44_0 rfl) rfl rfl ?_
     refine rg_q (wn_none rfl) (op_ld 0 sc_37 rfl rfl rfl) rfl rfl ?_
     refine rg_q (wn_none rfl) (op_len_slice Try.underlying37 rfl) rfl rfl ?_
     refine rg_q (wn_none rfl) (op_move (v := .pointer _) rfl) rfl rfl ?_
     refine rg_q (wn_none rfl) (op_nilck rfl) rfl rfl ?_
     refine rg_q (wn_none rfl) (op_field fld_44_3 rfl) rfl rfl ?_
     refine rg_q (wn_none rfl) (op_ld 0 sc_3 rfl rfl rfl) rfl rfl ?_
     refine rg_q (wn_none rfl) (op_ge rfl rfl) rfl rfl ?_
     refine rg_nil_then0 ?_
     refine cd_cond rfl (fun hb5 => ?_) (fun hb5 => ?_)
     ·have hp5 := hb5
      (try simp only [bn] at hp5)
      refine cd_sr ?_
      refine oq (op_assign (v := .int _ _) rfl) ?_
      refine ol_nil_then ?_
      refine cd_ret ?_
      refine px_thenR ?_
      have e : t.add r q slot = (6, t) := by unfold TreeS.add; rw [if_neg hr1, hqj]; simp only [hm0, Option.getD_some]; rw [if_neg hsl, if_pos (by omega)]
      rw [e]
      exact px_ret1 rfl (v := .int _ _) (l' := RTreeObj p t :: l) rfl (fun _ s => Sat.rtreeMk (t := t) hw hR (by simp) (by simp) (by simp) ((s.del 3).del 2)) ⟨rfl, rfl⟩
     ·have hp5 := hb5
      (try simp only [bn] at hp5)
      refine cd_skip ?_
      refine px_then ?_
      refine cd_pull1 ?_
      refine cd_seq ?_
      refine cd_drawt (M := [_]) mx [6, 7] 8 (by kernel_rfl) rfl rfl ?_
      dsimp only [List.take_succ_cons, List.take_zero, List.drop_succ_cons, List.drop_zero]
      refine rg_q (wn_none rfl) (op_move (v := .pointer _) rfl) rfl rfl ?_
      refine rg_q (wn_none rfl) (op_move (v := .pointer _) rfl) rfl rfl ?_
      refine rg_q (wn_none rfl) (op_nilck rfl) rfl rfl ?_
      refine rg_q (wn_none rfl) (op_field fld_44_0 rfl) rfl rfl ?_
      refine rg_q (wn_none rfl) (op_ld 0 sc_37 rfl rfl rfl) rfl rfl ?_
      refine rg_q (wn_none rfl) (op_lda (L := rootC _) 2 ag_24 rfl rfl (rootC_take' _) (by simp [rootC_len])) rfl rfl ?_
      refine rg_i (wn_none rfl) (os_bslice (E := encRoot) [_] (ys := [_]) sB_37 zv_24 rfl rfl rfl rfl (by decide)) rfl rfl ?_; rintro _ _ ⟨ao1, rfl, rfl⟩; refine ⟨[_, _], rfl, ?_⟩
      refine rg_i (wn_none rfl) (os_pull1 (os_append (E := encRoot) rfl sB_37 zv_24 rfl rfl rfl (fun w s => (rds_row 1 rfl rfl) [] w s) rfl (by simp; omega) (by unfold maxLen; simp; omega))) rfl rfl ?_; rintro _ _ ⟨ao2, ac2, rfl, rfl⟩; refine ⟨[_, _], rfl, ?_⟩
      refine rg_tail2 ?_
      refine oq (op_nilck rfl) ?_
      refine oq (op_field fld_44_0 rfl) ?_
      refine ol_pull2 ?_
      refine oN (os_store (v := .slice _ _ _) sc_37 rfl rfl rfl rfl (Free.zero _) rfl) ?_; rintro _ _ ⟨rfl, rfl⟩
      refine ol_nil_then ?_
      refine cd_sr ?_
      refine oq (op_move (v := .pointer _) rfl) ?_
      refine oq (op_move (v := .pointer _) rfl) ?_
      refine oq (op_nilck rfl) ?_
      refine oq (op_field fld_44_1 rfl) ?_
      refine oq (op_ld 0 sc_42 rfl rfl rfl) ?_
      refine oq (op_move (v := .int _ _) rfl) ?_
      refine oi (os_bslice (E := encI64) [_] (ys := [_]) sB_42 zv_3 rfl rfl rfl rfl (by decide)) ?_; rintro _ _ ⟨ao3, rfl, rfl⟩
      refine ol_pull6 ?_
      refine oi (os_append (E := encI64) rfl sB_42 zv_3 rfl rfl rfl (fun w s => (rds_row 1 rfl rfl) [] w s) rfl (by simp; omega) (by unfold maxLen; simp; omega)) ?_; rintro _ _ ⟨ao4, ac4, rfl, rfl⟩
      refine oq (op_nilck rfl) ?_
      refine oq (op_field fld_44_1 rfl) ?_
      refine ol_pull2 ?_
      refine oN (os_store (v := .slice _ _ _) sc_42 rfl rfl rfl rfl (Free.zero _) rfl) ?_; rintro _ _ ⟨rfl, rfl⟩
      refine ol_nil_then ?_
      refine cd_pull7 ?_
      refine cd_seq ?_
      refine cd_drawt (M := [_]) mx [6, 7] 8 (by kernel_rfl) rfl rfl ?_
      dsimp only [List.take_succ_cons, List.take_zero, List.drop_succ_cons, List.drop_zero]
      refine rg_q (wn_none rfl) (op_move (v := .pointer _) rfl) rfl rfl ?_
      refine rg_q (wn_none rfl) (op_move (v := .pointer _) rfl) rfl rfl ?_
      refine rg_q (wn_none rfl) (op_nilck rfl) rfl rfl ?_
      refine rg_q (wn_none rfl) (op_field fld_44_2 rfl) rfl rfl ?_
      refine rg_q (wn_none rfl) (op_ld 0 sc_37 rfl rfl rfl) rfl rfl ?_
      refine rg_q (wn_none rfl) (op_lda (L := rootC _) 5 ag_24 rfl rfl (rootC_take' _) (by simp [rootC_len])) rfl rfl ?_
      refine rg_i (wn_none rfl) (os_bslice (E := encRoot) [_] (ys := [_]) sB_37 zv_24 rfl rfl rfl rfl (by decide)) rfl rfl ?_; rintro _ _ ⟨ao5, rfl, rfl⟩; refine ⟨[_, _], rfl, ?_⟩
      refine rg_i (wn_none rfl) (os_pull1 (os_append (E := encRoot) rfl sB_37 zv_24 rfl rfl rfl (fun w s => (rds_row 1 rfl rfl) [] w s) rfl (by simp; omega) (by unfold maxLen; simp; omega))) rfl rfl ?_; rintro _ _ ⟨ao6, ac6, rfl, rfl⟩; refine ⟨[_, _], rfl, ?_⟩
      refine rg_tail2 ?_
      refine oq (op_nilck rfl) ?_
      refine oq (op_field fld_44_2 rfl) ?_
      refine ol_pull2 ?_
      refine oN (os_store (v := .slice _ _ _) sc_37 rfl rfl rfl rfl (Free.zero _) rfl) ?_; rintro _ _ ⟨rfl, rfl⟩
      refine ol_nil_then ?_
      refine cd_sr ?_
      refine oq (op_assign (v := .int _ _) rfl) ?_
      refine ol_nil_then ?_
      refine cd_ret ?_
      have hadd : t.add r q slot = (0, { t with nodes := t.nodes ++ [⟨r, slot, (j : Int)⟩] }) := by unfold TreeS.add; rw [if_neg hr1, hqj]; simp only [hm0, Option.getD_some]; rw [if_neg hsl, if_neg (by omega)]
      have hwf2 := hw.add r q slot
      rw [hadd] at hwf2 ⊢
      exact px_ret1 rfl (v := .int _ _) (l' := RTreeObj p { t with nodes := t.nodes ++ [⟨r, slot, (j : Int)⟩] } :: l) rfl (fun _ s => Sat.rtreeMk (t := { t with nodes := t.nodes ++ [⟨r, slot, (j : Int)⟩] }) hwf2 ⟨by rw [hR.r, List.map_append]; rfl, by rw [hR.s, List.map_append]; rfl, by rw [hR.p, parR_append (m := m0) hw.pa hm0 rfl, hmq]⟩ (by simp) (by simp) (by simp) (((((((((s.del 8).del 7).del 6).del 4).del 2).pull 1).pull 2).pull 3).pull 3)) ⟨rfl, rfl⟩

set_option maxRecDepth 100000 in
set_option maxHeartbeats 1000000 in
theorem RBelow_calls {w0 w : World} {l : List HProp} (p : Nat) (t : TreeS) (o r : Root) (hs : Sat w0 w ((RTreeObj p t) :: l))  :
  Calls Try.prog 54 #[.pointer (some ⟨p, 0, none⟩), .agg (rootC o).toArray, .agg (rootC r).toArray] w (Ret w0 fun v l' => v = .bool (t.below o r) ∧ l' = RTreeObj p t :: l) := by
 obtain ⟨a1, c1, a2, c2, a3, c3, R, Sl, Pa, hw, hR, hs⟩ := hs.rtreeOpen
 have hm1 := hw.m1; have hm2 := hw.m2; have hle := hw.le; have hne := hw.ne
 have hRl : R.length = t.nodes.length := by rw [hR.r, List.length_map]
 have hSl : Sl.length = t.nodes.length := by rw [hR.s, List.length_map]
 have hPl : Pa.length = t.nodes.length := by rw [hR.p]; unfold parR; rw [List.length_map]
 have hp1 : rplace R o = t.place o := by rw [hR.r, rplace_map]
 have hp2 : rplace R r = t.place r := by rw [hR.r, rplace_map]
 have hbe := t.below_eq o r
 refine calls_enter Try.func54 rfl rfl rfl hs ?_
 refine cd_sr ?_
 refine oi (os_boxa rfl) ?_; rintro _ _ ⟨bx1, rfl, rfl⟩
 refine oi (os_boxa rfl) ?_; rintro _ _ ⟨bx2, rfl, rfl⟩
 refine oq (op_assign (v := .bool _) rfl) ?_
 refine ol_nil_then ?_
 refine cd_seq ?_
 refine cd_sr ?_
 refine oq (op_move (v := .pointer _) rfl) ?_
 refine oq (op_lda (L := rootC _) 1 ag_24 rfl rfl (rootC_take' _) (by simp [rootC_len])) ?_
 refine ol_pull3 ?_
 refine ol_pull3 ?_
 refine oi (os_call cb_49 rfl (fun w s => RPlaceO_calls _ _ _ _ _ _ _ _  s )) ?_; rintro _ _ ⟨rfl, rfl⟩; simp only [hp1]
 refine oq (op_lt rfl rfl) ?_
 refine ol_nil_then ?_
 refine cd_cond rfl (fun hb1 => ?_) (fun hb1 => ?_)
 ·have hp1 := hb1
  (try simp only [bn] at hp1)
  have ho0 := TreeS.place_none (of_decide_eq_true hb1)
  rw [ho0] at hbe
  refine cd_sr ?_
  refine oq (op_assign (v := .bool _) rfl) ?_
  refine ol_nil_then ?_
  refine cd_ret ?_
  refine px_thenR ?_
  exact px_ret1 rfl (v := .bool _) (l' := RTreeObj p t :: l) rfl (fun _ s => Sat.rtreeMk (t := t) hw hR (by simp) (by simp) (by simp) ((s.del 3).del 2)) ⟨congrArg Value.bool hbe.symm, rfl⟩
 ·have hp1 := hb1
  (try simp only [bn] at hp1)
  obtain ⟨a0, ho0, hop⟩ := TreeS.place_some (t := t) (r := o) (by omega)
  rw [ho0] at hbe; dsimp only at hbe
  have hrl := t.place_lt r
  refine cd_skip ?_
  refine px_then ?_
  refine cd_seq ?_
  refine cd_sr ?_
  refine oq (op_move (v := .pointer _) rfl) ?_
  refine oq (op_lda (L := rootC _) 2 ag_24 rfl rfl (rootC_take' _) (by simp [rootC_len])) ?_
  refine ol_pull1 ?_
  refine ol_pull1 ?_
  refine oi (os_call cb_49 rfl (fun w s => RPlaceO_calls _ _ _ _ _ _ _ _  s )) ?_; rintro _ _ ⟨rfl, rfl⟩; simp only [hp2]
  refine oq (op_assign (v := .int _ _) rfl) ?_
  refine ol_nil_then ?_
  refine cd_block ?_
  refine cd_loop2 (α := Int) [(6, 7), (15, 28)] (fun x => [(7, .int .i64 x)]) (fun _ => _) (fun x => -1 ≤ x ∧ x < t.nodes.length ∧ t.below o r = belI t.nodes a0 x) (fun x => (x + 1).toNat) (t.place r) ⟨by unfold TreeS.place; split <;> omega, hrl, hbe⟩ ⟨rfl, trivial⟩ (fun _ s => s) ?_
  rintro i ⟨hi1, hi2, hbe⟩ f; (try dsimp only at hi1 hi2 hbe ⊢)
  refine cd_seq ?_
  refine cd_sr ?_
  refine oq (op_move (v := .int _ _) rfl) ?_
  refine oq (op_ge rfl rfl) ?_
  refine ol_nil_then ?_
  refine cd_cond rfl (fun hb2 => ?_) (fun hb2 => ?_)
  ·have hp2 := hb2
   (try simp only [bn] at hp2)
   obtain ⟨i0, rfl⟩ : ∃ i0 : Nat, i = i0 := ⟨i.toNat, by omega⟩
   have hgi : t.nodes[i0]? = some t.nodes[i0] := List.getElem?_eq_getElem (by omega)
   have hRi : R[i0] = t.nodes[i0].root := by simp only [hR.r, List.getElem_map]
   have hra := root_at hw ho0 (i := i0) (by omega)
   refine cd_skip ?_
   refine px_then ?_
   refine cd_seq ?_
   refine cd_block ?_
   refine cd_seq ?_
   refine cd_draw (M := []) mx [] (by kernel_rfl) ?_
   refine rg_q (wn_none rfl) (op_move (v := .pointer _) rfl) rfl rfl ?_
   refine rg_q (wn_none rfl) (op_nilck rfl) rfl rfl ?_
   refine rg_q (wn_none rfl) (op_field fld_44_0 rfl) rfl rfl ?_
   refine rg_q (wn_none rfl) (op_ld 0 sc_37 rfl rfl rfl) rfl rfl ?_
   refine rg_q (wn_none rfl) (op_move (v := .int _ _) rfl) rfl rfl ?_
   refine rg_q (wn_none rfl) (op_index i0 sB_37 rfl rfl rfl (rds_row 1 rfl rfl) rfl (by omega)) rfl rfl ?_
   refine rg_q (wn_none rfl) (op_ldaw (L := rootC _) ag_24 (rds_row 1 rfl rfl) rfl (by omega) rfl (rootC_ta _)) rfl rfl ?_
   refine rg_q (wn_none rfl) (op_lda (L := rootC _) 3 ag_24 rfl rfl (rootC_take' _) (by simp [rootC_len])) rfl rfl ?_
   refine rg_q (wn_none rfl) (op_eqroot _ _ rB_24 rfl rfl) rfl rfl ?_
   refine rg_nil_then0 ?_
   refine cd_cond rfl (fun hb3 => ?_) (fun hb3 => ?_)
   ·have hp3 := hb3
    (try simp only [bn] at hp3)
    have hia : i0 = a0 := hra.1 (hRi ▸ of_decide_eq_true hb3)
    subst hia
    rw [belI_eq] at hbe
    refine cd_sr ?_
    refine oq (op_assign (v := .bool _) rfl) ?_
    refine ol_nil_then ?_
    refine cd_ret ?_
    refine px_blockR ?_
    refine px_thenR ?_
    refine px_thenR ?_
    refine px_blockR ?_
    refine px_thenR ?_
    exact px_ret1 rfl (v := .bool _) (l' := RTreeObj p t :: l) rfl (fun _ s => Sat.rtreeMk (t := t) hw hR (by simp) (by simp) (by simp) ((s.del 3).del 2)) ⟨congrArg Value.bool hbe.symm, rfl⟩
   ·have hp3 := hb3
    (try simp only [bn] at hp3)
    have hia : i0 ≠ a0 := fun h => (of_decide_eq_false hb3) (hRi.trans (hra.2 h))
    have hup := belI_up hw.pa hgi (a := a0) hia
    have hpr := hw.par_rg hgi
    have hupe : t.up (i0 : Int) = t.nodes[i0].parent := by unfold TreeS.up; rw [if_pos (by omega), Int.toNat_natCast, hgi]; rfl
    refine cd_skip ?_
    refine px_blockN ?_
    refine px_then ?_
    refine cd_region ?_
    refine oq (op_move (v := .pointer _) rfl) ?_
    refine oq (op_move (v := .int _ _) rfl) ?_
    refine ol_pull5 ?_
    refine ol_pull5 ?_
    refine ol_pull3 ?_
    refine ol_pull3 ?_
    refine oi (os_call cb_25 rfl (fun w s => RUpO_calls _ _ _ _ _ _ _ _ _ _ _ _  s (by assumption) (by assumption))) ?_; rintro _ _ ⟨rfl, rfl⟩
    refine oq (op_assign (v := .int _ _) rfl) ?_
    refine ol_nil ?_
    refine px_loop2 (t.nodes[i0].parent) ⟨by omega, by omega, hbe.trans hup⟩ (by (try dsimp only); omega) ⟨congrArg (Value.int .i64) hupe, trivial⟩ ?_ (fun _ s => ((((((s.pull 3).pull 3).pull 5).pull 5).pull 5).pull 5))
    repeat (first | exact kept_over | refine kept_upd rfl ?_ | refine kept_overS (by decide) ?_)
  ·have hp2 := hb2
   (try simp only [bn] at hp2)
   refine cd_exit ?_
   refine px_thenE ?_
   refine px_thenE ?_
   refine px_blockE ?_
   refine px_then ?_
   refine cd_sr ?_
   refine oq (op_assign (v := .bool _) rfl) ?_
   refine ol_nil_then ?_
   refine cd_ret ?_
   exact px_ret1 rfl (v := .bool _) (l' := RTreeObj p t :: l) rfl (fun _ s => Sat.rtreeMk (t := t) hw hR (by simp) (by simp) (by simp) ((s.del 3).del 2)) ⟨congrArg Value.bool (hbe.trans (belI_neg (by omega))).symm, rfl⟩

set_option maxRecDepth 100000 in
set_option maxHeartbeats 1000000 in
theorem RBelowO_calls {w0 w : World} {l : List HProp} (p : Nat) (t : TreeS) (a1 a2 a3 : Option Addr) (c1 c2 c3 : Nat) (R : List Root) (Sl : List Int) (Pa : List Root) (o r : Root) (hs : Sat w0 w ((Blk p (.cells #[.slice a1 R.length c1, .slice a2 Sl.length c2, .slice a3 Pa.length c3, .int .i64 t.most] 44 (0, 0))) :: (Row 24 encRoot (.slice a1 R.length c1) R) :: (Row 3 encI64 (.slice a2 Sl.length c2) Sl) :: (Row 24 encRoot (.slice a3 Pa.length c3) Pa) :: l)) (hw : t.WF) (hR : RTreeOf t R Sl Pa) :
  Calls Try.prog 54 #[.pointer (some ⟨p, 0, none⟩), .agg (rootC o).toArray, .agg (rootC r).toArray] w (Ret w0 fun v l' => v = .bool (t.below o r) ∧ l' = Blk p (.cells #[.slice a1 R.length c1, .slice a2 Sl.length c2, .slice a3 Pa.length c3, .int .i64 t.most] 44 (0, 0)) :: Row 24 encRoot (.slice a1 R.length c1) R :: Row 3 encI64 (.slice a2 Sl.length c2) Sl :: Row 24 encRoot (.slice a3 Pa.length c3) Pa :: l) := by
 have hle := hw.le; have hm2 := hw.m2; have hRl : R.length = t.nodes.length := by rw [hR.r, List.length_map]
 have hPl : Pa.length = t.nodes.length := by rw [hR.p]; unfold parR; rw [List.length_map]
 have hp1 : rplace R o = t.place o := by rw [hR.r, rplace_map]
 have hp2 : rplace R r = t.place r := by rw [hR.r, rplace_map]
 have hbe := t.below_eq o r
 refine calls_enter Try.func54 rfl rfl rfl hs ?_
 refine cd_sr ?_
 refine oi (os_boxa rfl) ?_; rintro _ _ ⟨bx1, rfl, rfl⟩
 refine oi (os_boxa rfl) ?_; rintro _ _ ⟨bx2, rfl, rfl⟩
 refine oq (op_assign (v := .bool _) rfl) ?_
 refine ol_nil_then ?_
 refine cd_seq ?_
 refine cd_sr ?_
 refine oq (op_move (v := .pointer _) rfl) ?_
 refine oq (op_lda (L := rootC _) 1 ag_24 rfl rfl (rootC_take' _) (by simp [rootC_len])) ?_
 refine ol_pull3 ?_
 refine ol_pull3 ?_
 refine oi (os_call cb_49 rfl (fun w s => RPlaceO_calls _ _ _ _ _ _ _ _  s )) ?_; rintro _ _ ⟨rfl, rfl⟩; simp only [hp1]
 refine oq (op_lt rfl rfl) ?_
 refine ol_nil_then ?_
 refine cd_cond rfl (fun hb1 => ?_) (fun hb1 => ?_)
 ·have hp1 := hb1
  (try simp only [bn] at hp1)
  have ho0 := TreeS.place_none (of_decide_eq_true hb1)
  rw [ho0] at hbe
  refine cd_sr ?_
  refine oq (op_assign (v := .bool _) rfl) ?_
  refine ol_nil_then ?_
  refine cd_ret ?_
  refine px_thenR ?_
  exact px_ret1 rfl (v := .bool _) rfl (fun _ s => ((s.del 3).del 2)) ⟨congrArg Value.bool hbe.symm, rfl⟩
 ·have hp1 := hb1
  (try simp only [bn] at hp1)
  obtain ⟨a0, ho0, hop⟩ := TreeS.place_some (t := t) (r := o) (by omega)
  rw [ho0] at hbe; dsimp only at hbe
  have hrl := t.place_lt r
  refine cd_skip ?_
  refine px_then ?_
  refine cd_seq ?_
  refine cd_sr ?_
  refine oq (op_move (v := .pointer _) rfl) ?_
  refine oq (op_lda (L := rootC _) 2 ag_24 rfl rfl (rootC_take' _) (by simp [rootC_len])) ?_
  refine ol_pull1 ?_
  refine ol_pull1 ?_
  refine oi (os_call cb_49 rfl (fun w s => RPlaceO_calls _ _ _ _ _ _ _ _  s )) ?_; rintro _ _ ⟨rfl, rfl⟩; simp only [hp2]
  refine oq (op_assign (v := .int _ _) rfl) ?_
  refine ol_nil_then ?_
  refine cd_block ?_
  refine cd_loop2 (α := Int) [(6, 7), (15, 28)] (fun x => [(7, .int .i64 x)]) (fun _ => _) (fun x => -1 ≤ x ∧ x < t.nodes.length ∧ t.below o r = belI t.nodes a0 x) (fun x => (x + 1).toNat) (t.place r) ⟨by unfold TreeS.place; split <;> omega, hrl, hbe⟩ ⟨rfl, trivial⟩ (fun _ s => s) ?_
  rintro i ⟨hi1, hi2, hbe⟩ f; (try dsimp only at hi1 hi2 hbe ⊢)
  refine cd_seq ?_
  refine cd_sr ?_
  refine oq (op_move (v := .int _ _) rfl) ?_
  refine oq (op_ge rfl rfl) ?_
  refine ol_nil_then ?_
  refine cd_cond rfl (fun hb2 => ?_) (fun hb2 => ?_)
  ·have hp2 := hb2
   (try simp only [bn] at hp2)
   obtain ⟨i0, rfl⟩ : ∃ i0 : Nat, i = i0 := ⟨i.toNat, by omega⟩
   have hgi : t.nodes[i0]? = some t.nodes[i0] := List.getElem?_eq_getElem (by omega)
   have hRi : R[i0] = t.nodes[i0].root := by simp only [hR.r, List.getElem_map]
   have hra := root_at hw ho0 (i := i0) (by omega)
   refine cd_skip ?_
   refine px_then ?_
   refine cd_seq ?_
   refine cd_block ?_
   refine cd_seq ?_
   refine cd_draw (M := []) mx [] (by kernel_rfl) ?_
   refine rg_q (wn_none rfl) (op_move (v := .pointer _) rfl) rfl rfl ?_
   refine rg_q (wn_none rfl) (op_nilck rfl) rfl rfl ?_
   refine rg_q (wn_none rfl) (op_field fld_44_0 rfl) rfl rfl ?_
   refine rg_q (wn_none rfl) (op_ld 0 sc_37 rfl rfl rfl) rfl rfl ?_
   refine rg_q (wn_none rfl) (op_move (v := .int _ _) rfl) rfl rfl ?_
   refine rg_q (wn_none rfl) (op_index i0 sB_37 rfl rfl rfl (rds_row 1 rfl rfl) rfl (by omega)) rfl rfl ?_
   refine rg_q (wn_none rfl) (op_ldaw (L := rootC _) ag_24 (rds_row 1 rfl rfl) rfl (by omega) rfl (rootC_ta _)) rfl rfl ?_
   refine rg_q (wn_none rfl) (op_lda (L := rootC _) 3 ag_24 rfl rfl (rootC_take' _) (by simp [rootC_len])) rfl rfl ?_
   refine rg_q (wn_none rfl) (op_eqroot _ _ rB_24 rfl rfl) rfl rfl ?_
   refine rg_nil_then0 ?_
   refine cd_cond rfl (fun hb3 => ?_) (fun hb3 => ?_)
   ·have hp3 := hb3
    (try simp only [bn] at hp3)
    have hia : i0 = a0 := hra.1 (hRi ▸ of_decide_eq_true hb3)
    subst hia
    rw [belI_eq] at hbe
    refine cd_sr ?_
    refine oq (op_assign (v := .bool _) rfl) ?_
    refine ol_nil_then ?_
    refine cd_ret ?_
    refine px_blockR ?_
    refine px_thenR ?_
    refine px_thenR ?_
    refine px_blockR ?_
    refine px_thenR ?_
    exact px_ret1 rfl (v := .bool _) rfl (fun _ s => ((s.del 3).del 2)) ⟨congrArg Value.bool hbe.symm, rfl⟩
   ·have hp3 := hb3
    (try simp only [bn] at hp3)
    have hia : i0 ≠ a0 := fun h => (of_decide_eq_false hb3) (hRi.trans (hra.2 h))
    have hup := belI_up hw.pa hgi (a := a0) hia
    have hpr := hw.par_rg hgi
    have hupe : t.up (i0 : Int) = t.nodes[i0].parent := by unfold TreeS.up; rw [if_pos (by omega), Int.toNat_natCast, hgi]; rfl
    refine cd_skip ?_
    refine px_blockN ?_
    refine px_then ?_
    refine cd_region ?_
    refine oq (op_move (v := .pointer _) rfl) ?_
    refine oq (op_move (v := .int _ _) rfl) ?_
    refine ol_pull5 ?_
    refine ol_pull5 ?_
    refine ol_pull3 ?_
    refine ol_pull3 ?_
    refine oi (os_call cb_25 rfl (fun w s => RUpO_calls _ _ _ _ _ _ _ _ _ _ _ _  s (by assumption) (by assumption))) ?_; rintro _ _ ⟨rfl, rfl⟩
    refine oq (op_assign (v := .int _ _) rfl) ?_
    refine ol_nil ?_
    refine px_loop2 (t.nodes[i0].parent) ⟨by omega, by omega, hbe.trans hup⟩ (by (try dsimp only); omega) ⟨congrArg (Value.int .i64) hupe, trivial⟩ ?_ (fun _ s => ((((((s.pull 3).pull 3).pull 5).pull 5).pull 5).pull 5))
    repeat (first | exact kept_over | refine kept_upd rfl ?_ | refine kept_overS (by decide) ?_)
  ·have hp2 := hb2
   (try simp only [bn] at hp2)
   refine cd_exit ?_
   refine px_thenE ?_
   refine px_thenE ?_
   refine px_blockE ?_
   refine px_then ?_
   refine cd_sr ?_
   refine oq (op_assign (v := .bool _) rfl) ?_
   refine ol_nil_then ?_
   refine cd_ret ?_
   exact px_ret1 rfl (v := .bool _) rfl (fun _ s => ((s.del 3).del 2)) ⟨congrArg Value.bool (hbe.trans (belI_neg (by omega))).symm, rfl⟩

set_option maxRecDepth 100000 in
set_option maxHeartbeats 1000000 in
theorem Same_calls {w0 w : World} {l : List HProp} (ao bo : Option Addr) (c1 c2 : Nat) (xs ys : List Root) (hs : Sat w0 w (l)) (hr : Rds w0 l encRoot ao xs) (hr2 : Rds w0 l encRoot bo ys) (hxl : xs.length ≤ 1000000) :
  Calls Try.prog 19 #[.slice ao xs.length c1, .slice bo ys.length c2] w (Ret w0 fun v l' => v = .bool (decide (xs = ys)) ∧ l' = l) := by
 refine calls_enter Try.func19 rfl rfl rfl hs ?_
 refine cd_sr ?_
 refine oq (op_assign (v := .bool _) rfl) ?_
 refine ol_nil_then ?_
 refine cd_seq ?_
 refine cd_sr ?_
 refine oq (op_move (v := .slice _ _ _) rfl) ?_
 refine oq (op_len_slice Try.underlying37 rfl) ?_
 refine oq (op_move (v := .slice _ _ _) rfl) ?_
 refine oq (op_len_slice Try.underlying37 rfl) ?_
 refine oq (op_ne rfl rfl) ?_
 refine ol_nil_then ?_
 refine cd_cond rfl (fun hb1 => ?_) (fun hb1 => ?_)
 ·have hp1 := hb1
  (try simp only [bn] at hp1)
  have hne : xs ≠ ys := fun h => (of_decide_eq_true hb1) (by rw [h])
  refine cd_sr ?_
  refine oq (op_assign (v := .bool _) rfl) ?_
  refine ol_nil_then ?_
  refine cd_ret ?_
  refine px_thenR ?_
  exact px_ret1 rfl (v := .bool _) rfl (fun _ s => s) ⟨congrArg Value.bool ((decide_eq_false hne).symm), rfl⟩
 ·have hp1 := hb1
  (try simp only [bn] at hp1)
  have hll : xs.length = ys.length := by have := of_decide_eq_false hb1; omega
  refine cd_skip ?_
  refine px_then ?_
  refine cd_seq ?_
  refine cd_sr ?_
  refine oq (op_move (v := .slice _ _ _) rfl) ?_
  refine oq (op_len_slice Try.underlying37 rfl) ?_
  refine oq (op_move (v := .int _ _) rfl) ?_
  refine ol_nil_then ?_
  refine cd_block ?_
  refine cd_loop2 (α := Nat) [(4, 5), (13, 25)] (fun x => [(13, .int .i64 (x : Int))]) (fun _ => _) (fun x => x ≤ xs.length ∧ ∀ j (h : j < xs.length) (h2 : j < ys.length), j < x → xs[j] = ys[j]) (fun x => xs.length - x) 0 ⟨Nat.zero_le _, fun j h h3 h2 => absurd h2 (Nat.not_lt_zero _)⟩ ⟨rfl, trivial⟩ (fun _ s => s) ?_
  rintro i ⟨hi, heq⟩ f; (try dsimp only at hi heq ⊢)
  refine cd_sr ?_
  refine oq (op_lt rfl rfl) ?_
  refine ol_nil_then ?_
  refine cd_seq ?_
  refine cd_cond rfl (fun hb2 => ?_) (fun hb2 => ?_)
  ·have hp2 := hb2
   (try simp only [bn] at hp2)
   refine cd_skip ?_
   refine px_then ?_
   refine cd_seq ?_
   refine cd_block ?_
   refine cd_sr ?_
   refine oq (op_move (v := .int _ _) rfl) ?_
   refine oq (op_assign (v := .int _ _) rfl) ?_
   refine ol_nil_then ?_
   refine cd_seq ?_
   refine cd_draw (M := []) mx [] (by kernel_rfl) ?_
   refine rg_q (wn_none rfl) (op_move (v := .slice _ _ _) rfl) rfl rfl ?_
   refine rg_q (wn_none rfl) (op_move (v := .int _ _) rfl) rfl rfl ?_
   refine rg_q (wn_none rfl) (op_index _ sB_37 rfl rfl rfl hr rfl (by omega)) rfl rfl ?_
   refine rg_q (wn_none rfl) (op_ldaw (L := rootC _) ag_24 hr rfl (by omega) rfl (rootC_ta _)) rfl rfl ?_
   refine rg_q (wn_none rfl) (op_move (v := .slice _ _ _) rfl) rfl rfl ?_
   refine rg_q (wn_none rfl) (op_move (v := .int _ _) rfl) rfl rfl ?_
   refine rg_q (wn_none rfl) (op_index _ sB_37 rfl rfl rfl hr2 rfl (by omega)) rfl rfl ?_
   refine rg_q (wn_none rfl) (op_ldaw (L := rootC _) ag_24 hr2 rfl (by omega) rfl (rootC_ta _)) rfl rfl ?_
   refine rg_q (wn_none rfl) (op_neroot _ _ rB_24 rfl rfl) rfl rfl ?_
   refine rg_nil_then0 ?_
   refine cd_cond rfl (fun hb3 => ?_) (fun hb3 => ?_)
   ·have hp3 := hb3
    (try simp only [bn] at hp3)
    have hne : xs ≠ ys := fun h => (of_decide_eq_true hb3) (by subst h; rfl)
    refine cd_sr ?_
    refine oq (op_assign (v := .bool _) rfl) ?_
    refine ol_nil_then ?_
    refine cd_ret ?_
    refine px_blockR ?_
    refine px_thenR ?_
    refine px_thenR ?_
    refine px_blockR ?_
    refine px_thenR ?_
    exact px_ret1 rfl (v := .bool _) rfl (fun _ s => s) ⟨congrArg Value.bool ((decide_eq_false hne).symm), rfl⟩
   ·have hp3 := hb3
    (try simp only [bn] at hp3)
    have hee : xs[i] = ys[i] := Classical.byContradiction (of_decide_eq_false hb3)
    refine cd_skip ?_
    refine px_blockN ?_
    refine px_then ?_
    refine cd_region ?_
    refine oq (op_add rfl rfl (by omega) (by omega)) ?_
    refine oq (op_move (v := .int _ _) rfl) ?_
    refine ol_nil ?_
    refine px_loop2 (i + 1) ⟨by omega, fun j h h3 h2 => by rcases Nat.lt_succ_iff_lt_or_eq.1 h2 with h4 | h4; exact heq j h h3 h4; subst h4; exact hee⟩ (by (try dsimp only); omega) ⟨congrArg (Value.int .i64) (by simp), trivial⟩ ?_ (fun _ s => s)
    repeat (first | exact kept_over | refine kept_upd rfl ?_ | refine kept_overS (by decide) ?_)
  ·have hp2 := hb2
   (try simp only [bn] at hp2)
   refine cd_exit ?_
   refine px_thenE ?_
   refine px_thenE ?_
   refine px_blockE ?_
   refine px_then ?_
   refine cd_sr ?_
   refine oq (op_assign (v := .bool _) rfl) ?_
   refine ol_nil_then ?_
   refine cd_ret ?_
   exact px_ret1 rfl (v := .bool _) rfl (fun _ s => s) ⟨congrArg Value.bool ((decide_eq_true (List.ext_getElem hll fun j h1 h2 => heq j h1 h2 (by omega))).symm), rfl⟩
end Go.SL

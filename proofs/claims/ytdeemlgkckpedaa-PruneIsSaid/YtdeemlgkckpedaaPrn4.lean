import Derived.Test.YtdeemlgkckpedaaMPrn4
import Derived.Test.YtdeemlgkckpedaaWeiR5
set_option linter.unusedVariables false
set_option linter.unusedSimpArgs false
namespace Go.SL
open Go.Proofs

theorem cd_rwOpen {w0 : World} {n : Nat} {Q : Exit → Act → World → Prop} {f : Fr} {c : Code} {l : List HProp} {pm pr : Nat} {o : List Int} (h : ∀ a4 c4, CD Try.prog w0 n c Q f (Blk pm (.cells #[.pointer (some ⟨pr, 0, none⟩), .slice a4 o.length c4, .int .i64 (o.length : Int)] 47 (0, 0)) :: Row 3 encI64 (.slice a4 o.length c4) o :: l)) : CD Try.prog w0 n c Q f (RWObj pm pr o :: l) := fun a w r s =>
 let ⟨a4, c4, s'⟩ := s.rwOpen
 h a4 c4 a w r s'
theorem cd_rtreeOpen {w0 : World} {n : Nat} {Q : Exit → Act → World → Prop} {f : Fr} {c : Code} {l : List HProp} {pr : Nat} {t : TreeS} (h : ∀ a1 c1 a2 c2 a3 c3 R Sl Pa, t.WF → RTreeOf t R Sl Pa → CD Try.prog w0 n c Q f (Blk pr (.cells #[.slice a1 R.length c1, .slice a2 Sl.length c2, .slice a3 Pa.length c3, .int .i64 t.most] 44 (0, 0)) :: Row 24 encRoot (.slice a1 R.length c1) R :: Row 3 encI64 (.slice a2 Sl.length c2) Sl :: Row 24 encRoot (.slice a3 Pa.length c3) Pa :: l)) : CD Try.prog w0 n c Q f (RTreeObj pr t :: l) := fun a w r s =>
 let ⟨a1, c1, a2, c2, a3, c3, R, Sl, Pa, hw, hR, s'⟩ := s.rtreeOpen
 h a1 c1 a2 c2 a3 c3 R Sl Pa hw hR a w r s'
theorem Sat.rwtPack {w0 w : World} {l : List HProp} {pm pr : Nat} {t : TreeS} {a1 a2 a3 a4 : Option Addr} {c1 c2 c3 c4 : Nat} {R : List Root} {Sl : List Int} {Pa : List Root} {o : List Int} (hw : t.WF) (hR : RTreeOf t R Sl Pa) (s : Sat w0 w (Blk pm (.cells #[.pointer (some ⟨pr, 0, none⟩), .slice a4 o.length c4, .int .i64 (o.length : Int)] 47 (0, 0)) :: Row 3 encI64 (.slice a4 o.length c4) o :: Blk pr (.cells #[.slice a1 R.length c1, .slice a2 Sl.length c2, .slice a3 Pa.length c3, .int .i64 t.most] 44 (0, 0)) :: Row 24 encRoot (.slice a1 R.length c1) R :: Row 3 encI64 (.slice a2 Sl.length c2) Sl :: Row 24 encRoot (.slice a3 Pa.length c3) Pa :: l)) : Sat w0 w (RTreeObj pr t :: RWObj pm pr o :: l) := by
 have s2 : Sat _ _ (RWObj pm pr o :: Blk pr (.cells #[.slice a1 R.length c1, .slice a2 Sl.length c2, .slice a3 Pa.length c3, .int .i64 t.most] 44 (0, 0)) :: Row 24 encRoot (.slice a1 R.length c1) R :: Row 3 encI64 (.slice a2 Sl.length c2) Sl :: Row 24 encRoot (.slice a3 Pa.length c3) Pa :: l) := Sat.rwMk rfl rfl s
 have s3 : Sat _ _ (Blk pr (.cells #[.slice a1 R.length c1, .slice a2 Sl.length c2, .slice a3 Pa.length c3, .int .i64 t.most] 44 (0, 0)) :: Row 24 encRoot (.slice a1 R.length c1) R :: Row 3 encI64 (.slice a2 Sl.length c2) Sl :: Row 24 encRoot (.slice a3 Pa.length c3) Pa :: RWObj pm pr o :: l) := (((s2.pull 4).pull 4).pull 4).pull 4
 exact Sat.rtreeMk hw hR rfl rfl rfl s3

set_option maxRecDepth 100000 in
set_option maxHeartbeats 1000000 in
theorem ROwnOfO_calls {w0 w : World} {l : List HProp} (pm pr : Nat) (t : TreeS) (a1 a2 a3 a4 : Option Addr) (c1 c2 c3 c4 : Nat) (R : List Root) (Sl : List Int) (Pa : List Root) (o : List Int) (r : Root) (hs : Sat w0 w ((Blk pr (.cells #[.slice a1 R.length c1, .slice a2 Sl.length c2, .slice a3 Pa.length c3, .int .i64 t.most] 44 (0, 0))) :: (Row 24 encRoot (.slice a1 R.length c1) R) :: (Row 3 encI64 (.slice a2 Sl.length c2) Sl) :: (Row 24 encRoot (.slice a3 Pa.length c3) Pa) :: (Blk pm (.cells #[.pointer (some ⟨pr, 0, none⟩), .slice a4 o.length c4, .int .i64 (o.length : Int)] 47 (0, 0))) :: (Row 3 encI64 (.slice a4 o.length c4) o) :: l)) (hw : t.WF) (hR : RTreeOf t R Sl Pa) (h1 : o.length ≤ t.nodes.length) :
  Calls Try.prog 27 #[.pointer (some ⟨pm, 0, none⟩), .agg (rootC r).toArray] w (Ret w0 fun v l' => v = .int .i64 (ofF t o.length (oA o) r) ∧ l' = Blk pr (.cells #[.slice a1 R.length c1, .slice a2 Sl.length c2, .slice a3 Pa.length c3, .int .i64 t.most] 44 (0, 0)) :: Row 24 encRoot (.slice a1 R.length c1) R :: Row 3 encI64 (.slice a2 Sl.length c2) Sl :: Row 24 encRoot (.slice a3 Pa.length c3) Pa :: Blk pm (.cells #[.pointer (some ⟨pr, 0, none⟩), .slice a4 o.length c4, .int .i64 (o.length : Int)] 47 (0, 0)) :: Row 3 encI64 (.slice a4 o.length c4) o :: l) := by
 have hle := hw.le; have hm2 := hw.m2; have hpa := hw.pa; have hnd := hw.nd; have hne := hw.ne
 have hRl : R.length = t.nodes.length := by rw [hR.r, List.length_map]
 have hSl : Sl.length = t.nodes.length := by rw [hR.s, List.length_map]
 have hPl : Pa.length = t.nodes.length := by rw [hR.p]; unfold parR; rw [List.length_map]
 have hpl : ∀ r, rplace R r = t.place r := fun r => by rw [hR.r, rplace_map]
 have hrp := ofF_rpl (t := t) (n := o.length) (f := (oA o)) (r := r)
 refine calls_enter Try.func27 rfl rfl rfl hs ?_
 refine cd_sr ?_
 refine oi (os_boxa rfl) ?_; rintro _ _ ⟨bx1, rfl, rfl⟩
 refine oq (op_assign (v := .int _ _) rfl) ?_
 refine ol_nil_then ?_
 refine cd_seq ?_
 refine cd_sr ?_
 refine oq (op_move (v := .pointer _) rfl) ?_
 refine oq (op_lda (L := rootC _) 0 ag_24 rfl rfl (rootC_take' _) (by simp [rootC_len])) ?_
 refine ol_pull6 ?_
 refine ol_pull6 ?_
 refine ol_pull6 ?_
 refine ol_pull6 ?_
 refine ol_pull6 ?_
 refine ol_pull6 ?_
 refine oi (os_call cb_59 rfl (fun w s => RplW_calls _ _ _ _ _ _ _ _ _ _ _ _ _ _ _ _  s (by assumption) (by assumption) (by assumption))) ?_; rintro _ _ ⟨rfl, rfl⟩
 refine oq (op_assign (v := .int _ _) rfl) ?_
 refine ol_nil_then ?_
 refine cd_sr ?_
 refine oq (op_move (v := .int _ _) rfl) ?_
 refine oq (op_ge rfl rfl) ?_
 refine ol_nil_then ?_
 refine cd_cond rfl (fun hb1 => ?_) (fun hb1 => ?_)
 ·have hp1 := hb1
  (try simp only [bn] at hp1)
  obtain ⟨i, hri, hin, hof⟩ : ∃ i : Nat, rplW t o.length r = i ∧ i < o.length ∧ ofF t o.length (oA o) r = (oA o) i := by
   rcases hrp with ⟨h, _⟩ | h
   ·omega
   ·exact h
  rw [hri]
  refine cd_sr ?_
  refine oq (op_move (v := .pointer _) rfl) ?_
  refine oq (op_nilck rfl) ?_
  refine oq (op_field fld_47_1 rfl) ?_
  refine oq (op_ld 4 sc_42 rfl rfl rfl) ?_
  refine oq (op_move (v := .int _ _) rfl) ?_
  refine oq (op_index i sB_42 rfl rfl rfl (rds_row 5 rfl rfl) rfl (by omega)) ?_
  refine oq (op_ldw sc_3 (rds_row 5 rfl rfl) rfl (by omega) rfl) ?_
  refine oq (op_assign (v := .int _ _) rfl) ?_
  refine ol_nil_then ?_
  refine cd_ret ?_
  refine px_thenR ?_
  exact px_ret1 rfl (v := .int _ _) rfl (fun _ s => (s.del 6)) ⟨congrArg (Value.int .i64) (by rw [hof]; exact (oA_get _).symm), rfl⟩
 ·have hp1 := hb1
  (try simp only [bn] at hp1)
  refine cd_skip ?_
  refine px_then ?_
  refine cd_sr ?_
  refine oq (op_assign (v := .int _ _) rfl) ?_
  refine ol_nil_then ?_
  refine cd_ret ?_
  exact px_ret1 rfl (v := .int _ _) rfl (fun _ s => (s.del 6)) ⟨congrArg (Value.int .i64) (by rcases hrp with ⟨_, h⟩ | ⟨i, h, _⟩; exact h.symm; omega), rfl⟩

set_option maxRecDepth 100000 in
set_option maxHeartbeats 1000000 in
theorem RPAllN_calls {w0 w : World} {l : List HProp} (pm pr : Nat) (t : TreeS) (o : List Int) (r : Root) (hs : Sat w0 w ((RTreeObj pr t) :: (RWObj pm pr o) :: l)) (hi : idxOf t.nodes r = none) :
  Calls Try.prog 18 #[.pointer (some ⟨pm, 0, none⟩), .agg (rootC r).toArray] w (Ret w0 fun v l' => v = .tuple #[.pointer none, .bool false] ∧ l' = RTreeObj pr t :: RWObj pm pr o :: l) := by
 obtain ⟨a1, c1, a2, c2, a3, c3, R, Sl, Pa, hw, hR, hs⟩ := hs.rtreeOpen
 obtain ⟨a4, c4, hs⟩ := (hs.pull 4).rwOpen
 have hle := hw.le; have hm2 := hw.m2; have hpa := hw.pa; have hnd := hw.nd; have hne := hw.ne
 have hRl : R.length = t.nodes.length := by rw [hR.r, List.length_map]
 have hSl : Sl.length = t.nodes.length := by rw [hR.s, List.length_map]
 have hPl : Pa.length = t.nodes.length := by rw [hR.p]; unfold parR; rw [List.length_map]
 have hpl : ∀ r, rplace R r = t.place r := fun r => by rw [hR.r, rplace_map]
 have hpl0 : t.place r = -1 := by unfold TreeS.place; rw [hi]
 refine calls_enter Try.func18 rfl rfl rfl hs ?_
 refine cd_sr ?_
 refine oi (os_boxa rfl) ?_; rintro _ _ ⟨bx1, rfl, rfl⟩
 refine oq (op_assign (v := .pointer _) rfl) ?_
 refine oq (op_assign (v := .bool _) rfl) ?_
 refine ol_nil_then ?_
 refine cd_seq ?_
 refine cd_draw (M := []) mx [5] (by kernel_rfl) ?_
 refine rg_q (wn_none rfl) (op_move (v := .pointer _) rfl) rfl rfl ?_
 refine rg_q (wn_none rfl) (op_nilck rfl) rfl rfl ?_
 refine rg_q (wn_none rfl) (op_field fld_47_0 rfl) rfl rfl ?_
 refine rg_q (wn_none rfl) (op_ld 1 sc_45 rfl rfl rfl) rfl rfl ?_
 refine rg_q (wn_none rfl) (op_lda (L := rootC _) 0 ag_24 rfl rfl (rootC_take' _) (by simp [rootC_len])) rfl rfl ?_
 refine rg_i (wn_none rfl) (os_back (os_pull4 (os_pull4 (os_call cb_49 rfl (fun w s => RPlaceO_calls _ _ _ _ _ _ _ _  s )))) (fun _ s => (((((((s.pull 6).pull 6).pull 3).pull 3).pull 6).pull 6).pull 6))) rfl rfl ?_; rintro _ _ ⟨rfl, rfl⟩; rw [hpl, hpl0]; refine ⟨[], rfl, ?_⟩
 refine rg_q (wn_none rfl) (op_assign (v := .int _ _) rfl) rfl rfl ?_
 refine rg_nil_then0 ?_
 refine cd_seq ?_
 refine cd_sr ?_
 refine oq (op_move (v := .int _ _) rfl) ?_
 refine oq (op_lt rfl rfl) ?_
 refine ol_nil_then ?_
 refine cd_cond rfl (fun hb1 => ?_) (fun hb1 => ?_)
 ·have hp1 := hb1
  (try simp only [bn] at hp1)
  refine cd_sr ?_
  refine oq (op_assign (v := .pointer _) rfl) ?_
  refine oq (op_assign (v := .bool _) rfl) ?_
  refine ol_nil_then ?_
  refine cd_ret ?_
  refine px_thenR ?_
  exact px_ret2 rfl (v1 := .pointer _) (v2 := .bool _) (l' := RTreeObj pr t :: RWObj pm pr o :: l) rfl rfl (fun _ s => ((s.del 0)).rwtPack hw hR) ⟨rfl, rfl⟩
 ·have hp1 := hb1
  (try simp only [bn] at hp1)
  exact absurd hb1 (by decide)

set_option maxRecDepth 100000 in
set_option maxHeartbeats 1000000 in
theorem RPAllS_calls {w0 w : World} {l : List HProp} (pm pr : Nat) (t : TreeS) (o : List Int) (r : Root) (a : Nat) (hs : Sat w0 w ((RTreeObj pr t) :: (RWObj pm pr o) :: l)) (hi : idxOf t.nodes r = some a) (h1 : o.length ≤ t.nodes.length) :
  Calls Try.prog 18 #[.pointer (some ⟨pm, 0, none⟩), .agg (rootC r).toArray] w (Ret w0 fun v l' => ∃ qm qr, v = .tuple #[.pointer (some ⟨qm, 0, none⟩), .bool true] ∧ l' = RTreeObj qr (prT t a) :: RWObj qm qr (prO t.nodes a o) :: RTreeObj pr t :: RWObj pm pr o :: l) := by
 obtain ⟨a1, c1, a2, c2, a3, c3, R, Sl, Pa, hw, hR, hs⟩ := hs.rtreeOpen
 obtain ⟨a4, c4, hs⟩ := (hs.pull 4).rwOpen
 have hle := hw.le; have hm2 := hw.m2; have hpa := hw.pa; have hnd := hw.nd; have hne := hw.ne
 have hRl : R.length = t.nodes.length := by rw [hR.r, List.length_map]
 have hSl : Sl.length = t.nodes.length := by rw [hR.s, List.length_map]
 have hPl : Pa.length = t.nodes.length := by rw [hR.p]; unfold parR; rw [List.length_map]
 have hpl : ∀ r, rplace R r = t.place r := fun r => by rw [hR.r, rplace_map]
 have hla := idxOf_lt hi
 have hpl0 : t.place r = (a : Int) := by unfold TreeS.place; rw [hi]
 have hRr : ∀ q (h : q < R.length), R[q] = rtA t.nodes q := fun q h => by simp only [hR.r, List.getElem_map]; exact (rtA_get (by omega)).symm
 have hSr : ∀ q (h : q < Sl.length), Sl[q] = slA t.nodes q := fun q h => by simp only [hR.s, List.getElem_map]; exact (slA_get (by omega)).symm
 have hPr : ∀ q (h : q < Pa.length), q ≠ a → Pa[q] = upR t.nodes a q := fun q h hq => by unfold upR; rw [if_neg hq, List.getD_eq_getElem?_getD, List.getElem?_eq_getElem (by rw [← hR.p]; exact h)]; simp only [hR.p]; rfl
 refine calls_enter Try.func18 rfl rfl rfl hs ?_
 refine cd_sr ?_
 refine oi (os_boxa rfl) ?_; rintro _ _ ⟨bx1, rfl, rfl⟩
 refine oq (op_assign (v := .pointer _) rfl) ?_
 refine oq (op_assign (v := .bool _) rfl) ?_
 refine ol_nil_then ?_
 refine cd_seq ?_
 refine cd_draw (M := []) mx [5] (by kernel_rfl) ?_
 refine rg_q (wn_none rfl) (op_move (v := .pointer _) rfl) rfl rfl ?_
 refine rg_q (wn_none rfl) (op_nilck rfl) rfl rfl ?_
 refine rg_q (wn_none rfl) (op_field fld_47_0 rfl) rfl rfl ?_
 refine rg_q (wn_none rfl) (op_ld 1 sc_45 rfl rfl rfl) rfl rfl ?_
 refine rg_q (wn_none rfl) (op_lda (L := rootC _) 0 ag_24 rfl rfl (rootC_take' _) (by simp [rootC_len])) rfl rfl ?_
 refine rg_i (wn_none rfl) (os_back (os_pull4 (os_pull4 (os_call cb_49 rfl (fun w s => RPlaceO_calls _ _ _ _ _ _ _ _  s )))) (fun _ s => (((((((s.pull 6).pull 6).pull 3).pull 3).pull 6).pull 6).pull 6))) rfl rfl ?_; rintro _ _ ⟨rfl, rfl⟩; rw [hpl, hpl0]; refine ⟨[], rfl, ?_⟩
 refine rg_q (wn_none rfl) (op_assign (v := .int _ _) rfl) rfl rfl ?_
 refine rg_nil_then0 ?_
 refine cd_seq ?_
 refine cd_sr ?_
 refine oq (op_move (v := .int _ _) rfl) ?_
 refine oq (op_lt rfl rfl) ?_
 refine ol_nil_then ?_
 refine cd_cond rfl (fun hb1 => ?_) (fun hb1 => ?_)
 ·have hp1 := hb1
  (try simp only [bn] at hp1)
  omega
 ·have hp1 := hb1
  (try simp only [bn] at hp1)
  refine cd_skip ?_
  refine px_then ?_
  refine cd_sr ?_
  refine oq (op_move (v := .pointer _) rfl) ?_
  refine oq (op_nilck rfl) ?_
  refine oq (op_field fld_47_0 rfl) ?_
  refine oq (op_ld 1 sc_45 rfl rfl rfl) ?_
  refine oq (op_nilck rfl) ?_
  refine oq (op_field fld_44_3 rfl) ?_
  refine oq (op_ld 3 sc_3 rfl rfl rfl) ?_
  refine oq (op_build (L := [_, _, _, _]) (vs := [(3, .int _ _)]) bB_44 rfl ⟨⟨rfl, rfl⟩, trivial⟩ rfl) ?_
  refine oi (os_boxa rfl) ?_; rintro _ _ ⟨bx2, rfl, rfl⟩
  refine oq (op_assign (v := .pointer _) rfl) ?_
  refine ol_nil_then ?_
  refine cd_sr ?_
  refine oq (op_assign (v := .slice _ _ _) rfl) ?_
  refine ol_nil_then ?_
  refine cd_seq ?_
  refine cd_sr ?_
  refine oq (op_move (v := .pointer _) rfl) ?_
  refine oq (op_nilck rfl) ?_
  refine oq (op_field fld_47_0 rfl) ?_
  refine oq (op_ld 2 sc_45 rfl rfl rfl) ?_
  refine oq (op_nilck rfl) ?_
  refine oq (op_field fld_44_0 rfl) ?_
  refine oq (op_ld 4 sc_37 rfl rfl rfl) ?_
  refine oq (op_len_slice Try.underlying37 rfl) ?_
  refine oq (op_move (v := .int _ _) rfl) ?_
  refine ol_nil_then ?_
  refine cd_block ?_
  refine cd_imp (fun _ s => Sat.rowNil (E := encI64) (e := 3) s) ?_
  refine cd_imp (fun _ s => Sat.rowNil (E := encRoot) (e := 24) s) ?_
  refine cd_imp (fun _ s => Sat.rowNil (E := encI64) (e := 3) s) ?_
  refine cd_imp (fun _ s => Sat.rowNil (E := encRoot) (e := 24) s) ?_
  refine cd_pull4 ?_
  refine cd_loop2 (α := Nat × Option Addr × Nat × Option Addr × Nat × Option Addr × Nat × Option Addr × Nat) [(8, 11), (37, 109)] (fun x => [(8, .slice x.2.2.2.2.2.2.2.1 (prOm t.nodes a x.1 o).length x.2.2.2.2.2.2.2.2), (37, .int .i64 (x.1 : Int))]) (fun x => Blk bx2 (.cells #[.slice x.2.1 (prR t.nodes a x.1).length x.2.2.1, .slice x.2.2.2.1 (prS t.nodes a x.1).length x.2.2.2.2.1, .slice x.2.2.2.2.2.1 (prP t.nodes a x.1).length x.2.2.2.2.2.2.1, .int .i64 t.most] 44 (0, 0)) :: Row 24 encRoot (.slice x.2.1 (prR t.nodes a x.1).length x.2.2.1) (prR t.nodes a x.1) :: Row 3 encI64 (.slice x.2.2.2.1 (prS t.nodes a x.1).length x.2.2.2.2.1) (prS t.nodes a x.1) :: Row 24 encRoot (.slice x.2.2.2.2.2.1 (prP t.nodes a x.1).length x.2.2.2.2.2.2.1) (prP t.nodes a x.1) :: Row 3 encI64 (.slice x.2.2.2.2.2.2.2.1 (prOm t.nodes a x.1 o).length x.2.2.2.2.2.2.2.2) (prOm t.nodes a x.1 o) :: _) (fun x => x.1 ≤ t.nodes.length) (fun x => t.nodes.length - x.1) (0, none, 0, none, 0, none, 0, none, 0) (Nat.zero_le _) ⟨rfl, rfl, trivial⟩ (fun _ s => s) ?_
  rintro ⟨i, b1, d1, b2, d2, b3, d3, b4, d4⟩ hi2 f; (try dsimp only at hi2 ⊢)
  refine cd_sr ?_
  refine oq (op_lt rfl rfl) ?_
  refine ol_nil_then ?_
  refine cd_seq ?_
  refine cd_cond rfl (fun hb2 => ?_) (fun hb2 => ?_)
  ·have hp2 := hb2
   (try simp only [bn] at hp2)
   have hi1 : i < t.nodes.length := by omega
   refine cd_skip ?_
   refine px_then ?_
   refine cd_seq ?_
   refine cd_block ?_
   refine cd_sr ?_
   refine oq (op_move (v := .int _ _) rfl) ?_
   refine oq (op_index i sB_37 rfl rfl rfl (rds_row 9 rfl rfl) rfl (by omega)) ?_
   refine oq (op_ldaw (L := rootC _) ag_24 (rds_row 9 rfl rfl) rfl (by omega) rfl (rootC_ta _)) ?_
   refine oi (os_alloc (cs := (rootC Root.zero).toArray) zB_24 (by kernel_rfl)) ?_; rintro _ _ ⟨bx3, rfl, rfl⟩
   refine oq (op_assign (v := .int _ _) rfl) ?_
   refine oN (os_storera _ ag_24 rfl rfl (Free.zero _)) ?_; rintro _ _ ⟨rfl, rfl⟩
   refine ol_nil_then ?_
   refine cd_seq ?_
   rw [hRr i (by omega)]
   refine cd_seq ?_
   refine cd_draw (M := []) mx [6] (by kernel_rfl) ?_
   refine rg_q (wn_none rfl) (op_move (v := .pointer _) rfl) rfl rfl ?_
   refine rg_q (wn_none rfl) (op_nilck rfl) rfl rfl ?_
   refine rg_q (wn_none rfl) (op_field fld_47_0 rfl) rfl rfl ?_
   refine rg_q (wn_none rfl) (op_ld 7 sc_45 rfl rfl rfl) rfl rfl ?_
   refine rg_q (wn_none rfl) (op_lda (L := rootC _) 6 ag_24 rfl rfl (rootC_take' _) (by simp [rootC_len])) rfl rfl ?_
   refine rg_q (wn_none rfl) (op_lda (L := rootC _) 0 ag_24 rfl rfl (rootC_take' _) (by simp [rootC_len])) rfl rfl ?_
   refine rg_i (wn_none rfl) (os_back (os_pull12 (os_pull12 (os_pull12 (os_pull12 (os_call cb_54 rfl (fun w s => RBelowO_calls _ _ _ _ _ _ _ _ _ _ _ _ _  s (by assumption) (by assumption))))))) (fun _ s => ((((s.push 12).push 12).push 12).push 12))) rfl rfl ?_; rintro _ l ⟨rfl, rfl⟩; rw [below_rt hw hi hi1]; refine ⟨[], rfl, ?_⟩
   refine rg_q (wn_none rfl) (op_not rfl) rfl rfl ?_
   refine rg_nil_then0 ?_
   refine cd_cond rfl (fun hb3 => ?_) (fun hb3 => ?_)
   ·have hp3 := hb3
    (try simp only [bn] at hp3)
    have hbe : ¬ belI t.nodes a (i : Int) = true := by simpa using hb3
    have eR : (prR t.nodes a (i + 1)) = (prR t.nodes a i) := by unfold prR; rw [selI_succ, if_neg hbe]
    have eS : (prS t.nodes a (i + 1)) = (prS t.nodes a i) := by unfold prS; rw [selI_succ, if_neg hbe]
    have eP : (prP t.nodes a (i + 1)) = (prP t.nodes a i) := by unfold prP; rw [selI_succ, if_neg hbe]
    have eO : (prOm t.nodes a (i + 1) o) = (prOm t.nodes a i o) := by unfold prOm; rw [selI_succ, if_neg hbe]
    refine cd_exit ?_
    refine px_thenE ?_
    refine px_blockE ?_
    refine px_then ?_
    refine cd_region ?_
    refine oq (op_add rfl rfl (by omega) (by omega)) ?_
    refine oq (op_move (v := .int _ _) rfl) ?_
    refine ol_nil ?_
    refine px_loop2 (i + 1, b1, d1, b2, d2, b3, d3, b4, d4) (by dsimp only; omega) (by (try dsimp only); omega) ⟨congrArg (fun q => Value.slice b4 (List.length q) d4) eO.symm, congrArg (Value.int .i64) (by simp), trivial⟩ ?_ (fun _ s => (by (try dsimp only); rw [eR, eS, eP, eO]; exact (s.del 0)))
    repeat (first | exact kept_over | refine kept_upd rfl ?_ | refine kept_overS (by decide) ?_)
   ·have hp3 := hb3
    (try simp only [bn] at hp3)
    have hbe : belI t.nodes a (i : Int) = true := by simpa using hb3
    have eR : (prR t.nodes a (i + 1)) = (prR t.nodes a i) ++ [rtA t.nodes i] := by unfold prR; rw [selI_succ, if_pos hbe, List.map_append]; rfl
    have eS : (prS t.nodes a (i + 1)) = (prS t.nodes a i) ++ [slA t.nodes i] := by unfold prS; rw [selI_succ, if_pos hbe, List.map_append]; rfl
    have eP : (prP t.nodes a (i + 1)) = (prP t.nodes a i) ++ [upR t.nodes a i] := by unfold prP; rw [selI_succ, if_pos hbe, List.map_append]; rfl
    have eO : (prOm t.nodes a (i + 1) o) = (prOm t.nodes a i o) ++ [oA o i] := by unfold prOm; rw [selI_succ, if_pos hbe, List.map_append]; rfl
    refine cd_skip ?_
    refine px_then ?_
    refine cd_pull2 ?_
    refine cd_seq ?_
    refine cd_drawt (M := [_]) mx [6, 7] 8 (by kernel_rfl) rfl rfl ?_
    dsimp only [List.take_succ_cons, List.take_zero, List.drop_succ_cons, List.drop_zero]
    refine rg_q (wn_none rfl) (op_move (v := .pointer _) rfl) rfl rfl ?_
    refine rg_q (wn_none rfl) (op_move (v := .pointer _) rfl) rfl rfl ?_
    refine rg_q (wn_none rfl) (op_nilck rfl) rfl rfl ?_
    refine rg_q (wn_none rfl) (op_field fld_44_0 rfl) rfl rfl ?_
    refine rg_q (wn_none rfl) (op_ld 1 sc_37 rfl rfl rfl) rfl rfl ?_
    refine rg_q (wn_none rfl) (op_lda (L := rootC _) 0 ag_24 rfl rfl (rootC_take' _) (by simp [rootC_len])) rfl rfl ?_
    refine rg_i (wn_none rfl) (os_bslice (E := encRoot) [_] (ys := [_]) sB_37 zv_24 rfl rfl rfl rfl (by decide)) rfl rfl ?_; rintro _ _ ⟨ao1, rfl, rfl⟩; refine ⟨[_, _], rfl, ?_⟩
    refine rg_i (wn_none rfl) (os_pull1 (os_append (E := encRoot) rfl sB_37 zv_24 rfl rfl rfl (fun w s => (rds_row 1 rfl rfl) [] w s) rfl (by simp; have := rk_le t.nodes a i; have := (rfl : (prR t.nodes a i).length = _); simp [prR, prS, prP, prOm] at *; unfold rk at *; omega) (by unfold maxLen; simp; have := rk_le t.nodes a i; have := (rfl : (prR t.nodes a i).length = _); simp [prR, prS, prP, prOm] at *; unfold rk at *; omega))) rfl rfl ?_; rintro _ _ ⟨ao2, ac2, rfl, rfl⟩; refine ⟨[_, _], rfl, ?_⟩
    refine rg_tail2 ?_
    refine oq (op_nilck rfl) ?_
    refine oq (op_field fld_44_0 rfl) ?_
    refine ol_pull3 ?_
    refine oN (os_store (v := .slice _ _ _) sc_37 rfl rfl rfl rfl (Free.zero _) rfl) ?_; rintro _ _ ⟨rfl, rfl⟩
    refine ol_nil_then ?_
    refine cd_pull4 ?_
    refine cd_seq ?_
    refine cd_drawt (M := [_]) mx [15, 16] 17 (by kernel_rfl) rfl rfl ?_
    dsimp only [List.take_succ_cons, List.take_zero, List.drop_succ_cons, List.drop_zero]
    refine rg_q (wn_none rfl) (op_move (v := .pointer _) rfl) rfl rfl ?_
    refine rg_q (wn_none rfl) (op_move (v := .pointer _) rfl) rfl rfl ?_
    refine rg_q (wn_none rfl) (op_nilck rfl) rfl rfl ?_
    refine rg_q (wn_none rfl) (op_field fld_44_1 rfl) rfl rfl ?_
    refine rg_q (wn_none rfl) (op_ld 0 sc_42 rfl rfl rfl) rfl rfl ?_
    refine rg_q (wn_none rfl) (op_move (v := .pointer _) rfl) rfl rfl ?_
    refine rg_q (wn_none rfl) (op_nilck rfl) rfl rfl ?_
    refine rg_q (wn_none rfl) (op_field fld_47_0 rfl) rfl rfl ?_
    refine rg_q (wn_none rfl) (op_ld 7 sc_45 rfl rfl rfl) rfl rfl ?_
    refine rg_q (wn_none rfl) (op_nilck rfl) rfl rfl ?_
    refine rg_q (wn_none rfl) (op_field fld_44_1 rfl) rfl rfl ?_
    refine rg_q (wn_none rfl) (op_ld 9 sc_42 rfl rfl rfl) rfl rfl ?_
    refine rg_q (wn_none rfl) (op_move (v := .int _ _) rfl) rfl rfl ?_
    refine rg_q (wn_none rfl) (op_index i sB_42 rfl rfl rfl (rds_row 11 rfl rfl) rfl (by omega)) rfl rfl ?_
    refine rg_q (wn_none rfl) (op_ldw sc_3 (rds_row 11 rfl rfl) rfl (by omega) rfl) rfl rfl ?_
    refine rg_i (wn_none rfl) (os_bslice (E := encI64) [_] (ys := [_]) sB_42 zv_3 rfl rfl rfl rfl (by decide)) rfl rfl ?_; rintro _ _ ⟨ao3, rfl, rfl⟩; refine ⟨[_, _], rfl, ?_⟩
    refine rg_i (wn_none rfl) (os_pull1 (os_append (E := encI64) rfl sB_42 zv_3 rfl rfl rfl (fun w s => (rds_row 1 rfl rfl) [] w s) rfl (by simp; have := rk_le t.nodes a i; have := (rfl : (prR t.nodes a i).length = _); simp [prR, prS, prP, prOm] at *; unfold rk at *; omega) (by unfold maxLen; simp; have := rk_le t.nodes a i; have := (rfl : (prR t.nodes a i).length = _); simp [prR, prS, prP, prOm] at *; unfold rk at *; omega))) rfl rfl ?_; rintro _ _ ⟨ao4, ac4, rfl, rfl⟩; refine ⟨[_, _], rfl, ?_⟩
    refine rg_tail2 ?_
    refine oq (op_nilck rfl) ?_
    refine oq (op_field fld_44_1 rfl) ?_
    refine ol_pull2 ?_
    refine oN (os_store (v := .slice _ _ _) sc_42 rfl rfl rfl rfl (Free.zero _) rfl) ?_; rintro _ _ ⟨rfl, rfl⟩
    refine ol_nil_then ?_
    rw [hSr i (by omega)]
    refine cd_sr ?_
    refine oq (op_move (v := .pointer _) rfl) ?_
    refine oq (op_nilck rfl) ?_
    refine oq (op_field fld_47_0 rfl) ?_
    refine oq (op_ld 9 sc_45 rfl rfl rfl) ?_
    refine oq (op_nilck rfl) ?_
    refine oq (op_field fld_44_2 rfl) ?_
    refine oq (op_ld 11 sc_37 rfl rfl rfl) ?_
    refine oq (op_move (v := .int _ _) rfl) ?_
    refine oq (op_index i sB_37 rfl rfl rfl (rds_row 14 rfl rfl) rfl (by omega)) ?_
    refine oq (op_ldaw (L := rootC _) ag_24 (rds_row 14 rfl rfl) rfl (by omega) rfl (rootC_ta _)) ?_
    refine oi (os_alloc (cs := (rootC Root.zero).toArray) zB_24 (by kernel_rfl)) ?_; rintro _ _ ⟨bx4, rfl, rfl⟩
    refine oN (os_storera _ ag_24 rfl rfl (Free.zero _)) ?_; rintro _ _ ⟨rfl, rfl⟩
    refine ol_nil_then ?_
    refine cd_seq ?_
    refine cd_sr ?_
    refine oq (op_move (v := .int _ _) rfl) ?_
    refine oq (op_move (v := .int _ _) rfl) ?_
    refine oq (op_eq rfl rfl) ?_
    refine ol_nil_then ?_
    refine cd_cond rfl (fun hb4 => ?_) (fun hb4 => ?_)
    ·have hp4 := hb4
     (try simp only [bn] at hp4)
     have hup : Root.zero = upR t.nodes a i := by unfold upR; rw [if_pos (by omega)]
     refine cd_region ?_
     refine oq (op_buildr rfl rB_24 zBr_24) ?_
     refine oN (os_storera _ ag_24 rfl rfl (Free.zero _)) ?_; rintro _ _ ⟨rfl, rfl⟩; rw [hup]
     refine ol_nil ?_
     refine px_then ?_
     refine cd_pull7 ?_
     refine cd_seq ?_
     refine cd_drawt (M := [_]) mx [6, 7] 8 (by kernel_rfl) rfl rfl ?_
     dsimp only [List.take_succ_cons, List.take_zero, List.drop_succ_cons, List.drop_zero]
     refine rg_q (wn_none rfl) (op_move (v := .pointer _) rfl) rfl rfl ?_
     refine rg_q (wn_none rfl) (op_move (v := .pointer _) rfl) rfl rfl ?_
     refine rg_q (wn_none rfl) (op_nilck rfl) rfl rfl ?_
     refine rg_q (wn_none rfl) (op_field fld_44_2 rfl) rfl rfl ?_
     refine rg_q (wn_none rfl) (op_ld 1 sc_37 rfl rfl rfl) rfl rfl ?_
     refine rg_q (wn_none rfl) (op_lda (L := rootC _) 0 ag_24 rfl rfl (rootC_take' _) (by simp [rootC_len])) rfl rfl ?_
     refine rg_i (wn_none rfl) (os_bslice (E := encRoot) [_] (ys := [_]) sB_37 zv_24 rfl rfl rfl rfl (by decide)) rfl rfl ?_; rintro _ _ ⟨ao5, rfl, rfl⟩; refine ⟨[_, _], rfl, ?_⟩
     refine rg_i (wn_none rfl) (os_pull1 (os_append (E := encRoot) rfl sB_37 zv_24 rfl rfl rfl (fun w s => (rds_row 1 rfl rfl) [] w s) rfl (by simp; have := rk_le t.nodes a i; have := (rfl : (prR t.nodes a i).length = _); simp [prR, prS, prP, prOm] at *; unfold rk at *; omega) (by unfold maxLen; simp; have := rk_le t.nodes a i; have := (rfl : (prR t.nodes a i).length = _); simp [prR, prS, prP, prOm] at *; unfold rk at *; omega))) rfl rfl ?_; rintro _ _ ⟨ao6, ac6, rfl, rfl⟩; refine ⟨[_, _], rfl, ?_⟩
     refine rg_tail2 ?_
     refine oq (op_nilck rfl) ?_
     refine oq (op_field fld_44_2 rfl) ?_
     refine ol_pull3 ?_
     refine oN (os_store (v := .slice _ _ _) sc_37 rfl rfl rfl rfl (Free.zero _) rfl) ?_; rintro _ _ ⟨rfl, rfl⟩
     refine ol_nil_then ?_
     refine cd_region ?_
     refine oq (op_move (v := .slice _ _ _) rfl) ?_
     refine oq (op_move (v := .pointer _) rfl) ?_
     refine oq (op_lda (L := rootC _) 8 ag_24 rfl rfl (rootC_take' _) (by simp [rootC_len])) ?_
     refine ol_pull12 ?_
     refine ol_pull12 ?_
     refine ol_pull16 ?_
     refine ol_pull16 ?_
     refine ol_pull16 ?_
     refine ol_pull16 ?_
     refine oi (os_call cb_27 rfl (fun w s => ROwnOfO_calls _ _ _ _ _ _ _ _ _ _ _ _ _ _ _ _  s (by assumption) (by assumption) (by first | assumption | omega))) ?_; rintro _ _ ⟨rfl, rfl⟩; rw [ofF_rt2 hw hi1]
     refine oi (os_bslice (E := encI64) [_] (ys := [_]) sB_42 zv_3 rfl rfl rfl rfl (by decide)) ?_; rintro _ _ ⟨ao7, rfl, rfl⟩
     refine ol_pull16 ?_
     refine oi (os_append (E := encI64) rfl sB_42 zv_3 rfl rfl rfl (fun w s => (rds_row 1 rfl rfl) [] w s) rfl (by simp; have := rk_le t.nodes a i; have := (rfl : (prR t.nodes a i).length = _); simp [prR, prS, prP, prOm] at *; unfold rk at *; omega) (by unfold maxLen; simp; have := rk_le t.nodes a i; have := (rfl : (prR t.nodes a i).length = _); simp [prR, prS, prP, prOm] at *; unfold rk at *; omega)) ?_; rintro _ _ ⟨ao8, ac8, rfl, rfl⟩
     refine oq (op_assign (v := .slice _ _ _) rfl) ?_
     refine ol_nil ?_
     refine px_blockN ?_
     refine px_then ?_
     refine cd_region ?_
     refine oq (op_add rfl rfl (by omega) (by omega)) ?_
     refine oq (op_move (v := .int _ _) rfl) ?_
     refine ol_nil ?_
     refine px_pull5 ?_
     refine px_pull5 ?_
     refine px_pull5 ?_
     refine px_pull5 ?_
     refine px_pull7 ?_
     refine px_pull7 ?_
     refine px_pull17 ?_
     refine px_pull7 ?_
     refine px_pull10 ?_
     refine px_pull13 ?_
     refine px_pull15 ?_
     refine px_pull12 ?_
     refine px_loop2 (i + 1, ao2, ac2, ao4, ac4, ao6, ac6, ao8, ac8) (by dsimp only; omega) (by (try dsimp only); omega) ⟨congrArg (fun q => Value.slice ao8 (List.length q) ac8) eO.symm, congrArg (Value.int .i64) (by simp), trivial⟩ ?_ (fun _ s => (by (try dsimp only); rw [eR, eS, eP, eO]; exact ((((((s.del 17).del 16).del 15).del 14).del 13).del 12)))
     repeat (first | exact kept_over | refine kept_upd rfl ?_ | refine kept_overS (by decide) ?_)
    ·have hp4 := hb4
     (try simp only [bn] at hp4)
     have hup : Pa[i]'(by omega) = upR t.nodes a i := hPr i (by omega) (by omega)
     rw [hup]
     refine cd_skip ?_
     refine px_then ?_
     refine cd_pull7 ?_
     refine cd_seq ?_
     refine cd_drawt (M := [_]) mx [6, 7] 8 (by kernel_rfl) rfl rfl ?_
     dsimp only [List.take_succ_cons, List.take_zero, List.drop_succ_cons, List.drop_zero]
     refine rg_q (wn_none rfl) (op_move (v := .pointer _) rfl) rfl rfl ?_
     refine rg_q (wn_none rfl) (op_move (v := .pointer _) rfl) rfl rfl ?_
     refine rg_q (wn_none rfl) (op_nilck rfl) rfl rfl ?_
     refine rg_q (wn_none rfl) (op_field fld_44_2 rfl) rfl rfl ?_
     refine rg_q (wn_none rfl) (op_ld 1 sc_37 rfl rfl rfl) rfl rfl ?_
     refine rg_q (wn_none rfl) (op_lda (L := rootC _) 0 ag_24 rfl rfl (rootC_take' _) (by simp [rootC_len])) rfl rfl ?_
     refine rg_i (wn_none rfl) (os_bslice (E := encRoot) [_] (ys := [_]) sB_37 zv_24 rfl rfl rfl rfl (by decide)) rfl rfl ?_; rintro _ _ ⟨ao9, rfl, rfl⟩; refine ⟨[_, _], rfl, ?_⟩
     refine rg_i (wn_none rfl) (os_pull1 (os_append (E := encRoot) rfl sB_37 zv_24 rfl rfl rfl (fun w s => (rds_row 1 rfl rfl) [] w s) rfl (by simp; have := rk_le t.nodes a i; have := (rfl : (prR t.nodes a i).length = _); simp [prR, prS, prP, prOm] at *; unfold rk at *; omega) (by unfold maxLen; simp; have := rk_le t.nodes a i; have := (rfl : (prR t.nodes a i).length = _); simp [prR, prS, prP, prOm] at *; unfold rk at *; omega))) rfl rfl ?_; rintro _ _ ⟨ao10, ac10, rfl, rfl⟩; refine ⟨[_, _], rfl, ?_⟩
     refine rg_tail2 ?_
     refine oq (op_nilck rfl) ?_
     refine oq (op_field fld_44_2 rfl) ?_
     refine ol_pull3 ?_
     refine oN (os_store (v := .slice _ _ _) sc_37 rfl rfl rfl rfl (Free.zero _) rfl) ?_; rintro _ _ ⟨rfl, rfl⟩
     refine ol_nil_then ?_
     refine cd_region ?_
     refine oq (op_move (v := .slice _ _ _) rfl) ?_
     refine oq (op_move (v := .pointer _) rfl) ?_
     refine oq (op_lda (L := rootC _) 8 ag_24 rfl rfl (rootC_take' _) (by simp [rootC_len])) ?_
     refine ol_pull12 ?_
     refine ol_pull12 ?_
     refine ol_pull16 ?_
     refine ol_pull16 ?_
     refine ol_pull16 ?_
     refine ol_pull16 ?_
     refine oi (os_call cb_27 rfl (fun w s => ROwnOfO_calls _ _ _ _ _ _ _ _ _ _ _ _ _ _ _ _  s (by assumption) (by assumption) (by first | assumption | omega))) ?_; rintro _ _ ⟨rfl, rfl⟩; rw [ofF_rt2 hw hi1]
     refine oi (os_bslice (E := encI64) [_] (ys := [_]) sB_42 zv_3 rfl rfl rfl rfl (by decide)) ?_; rintro _ _ ⟨ao11, rfl, rfl⟩
     refine ol_pull16 ?_
     refine oi (os_append (E := encI64) rfl sB_42 zv_3 rfl rfl rfl (fun w s => (rds_row 1 rfl rfl) [] w s) rfl (by simp; have := rk_le t.nodes a i; have := (rfl : (prR t.nodes a i).length = _); simp [prR, prS, prP, prOm] at *; unfold rk at *; omega) (by unfold maxLen; simp; have := rk_le t.nodes a i; have := (rfl : (prR t.nodes a i).length = _); simp [prR, prS, prP, prOm] at *; unfold rk at *; omega)) ?_; rintro _ _ ⟨ao12, ac12, rfl, rfl⟩
     refine oq (op_assign (v := .slice _ _ _) rfl) ?_
     refine ol_nil ?_
     refine px_blockN ?_
     refine px_then ?_
     refine cd_region ?_
     refine oq (op_add rfl rfl (by omega) (by omega)) ?_
     refine oq (op_move (v := .int _ _) rfl) ?_
     refine ol_nil ?_
     refine px_pull5 ?_
     refine px_pull5 ?_
     refine px_pull5 ?_
     refine px_pull5 ?_
     refine px_pull7 ?_
     refine px_pull7 ?_
     refine px_pull17 ?_
     refine px_pull7 ?_
     refine px_pull10 ?_
     refine px_pull13 ?_
     refine px_pull15 ?_
     refine px_pull12 ?_
     refine px_loop2 (i + 1, ao2, ac2, ao4, ac4, ao10, ac10, ao12, ac12) (by dsimp only; omega) (by (try dsimp only); omega) ⟨congrArg (fun q => Value.slice ao12 (List.length q) ac12) eO.symm, congrArg (Value.int .i64) (by simp), trivial⟩ ?_ (fun _ s => (by (try dsimp only); rw [eR, eS, eP, eO]; exact ((((((s.del 17).del 16).del 15).del 14).del 13).del 12)))
     repeat (first | exact kept_over | refine kept_upd rfl ?_ | refine kept_overS (by decide) ?_)
  ·have hp2 := hb2
   (try simp only [bn] at hp2)
   have hie : i = t.nodes.length := by omega
   refine cd_exit ?_
   refine px_thenE ?_
   refine px_thenE ?_
   refine px_blockE ?_
   refine px_then ?_
   refine cd_sr ?_
   refine oq (op_move (v := .pointer _) rfl) ?_
   refine oq (op_move (v := .slice _ _ _) rfl) ?_
   refine oq (op_move (v := .slice _ _ _) rfl) ?_
   refine oq (op_len_slice Try.underlying42 rfl) ?_
   refine oq (op_build (L := [_, _, _]) (vs := [(0, .pointer _), (1, .slice _ _ _), (2, .int _ _)]) bB_47 rfl ⟨⟨rfl, rfl⟩, ⟨rfl, rfl⟩, ⟨rfl, rfl⟩, trivial⟩ rfl) ?_
   refine oi (os_boxa rfl) ?_; rintro _ _ ⟨bx5, rfl, rfl⟩
   refine oq (op_assign (v := .pointer _) rfl) ?_
   refine oq (op_assign (v := .bool _) rfl) ?_
   refine ol_nil_then ?_
   refine cd_ret ?_
   refine px_pull12 ?_
   refine px_pull12 ?_
   refine px_pull12 ?_
   refine px_pull12 ?_
   refine px_pull12 ?_
   refine px_pull12 ?_
   refine px_pull11 ?_
   refine px_pull7 ?_
   refine px_pull11 ?_
   refine px_pull11 ?_
   refine px_pull11 ?_
   refine px_pull11 ?_
   rw [hie]
   exact px_ret2 rfl (v1 := .pointer _) (v2 := .bool _) (l' := RTreeObj _ (prT t a) :: RWObj _ _ (prO t.nodes a o) :: RTreeObj pr t :: RWObj pm pr o :: l) rfl rfl (fun _ s => by
    have s1 : Sat _ _ (RTreeObj _ (prT t a) :: _) := Sat.rtreeMk (prT_wf hw hla) (pr_ref hw a) rfl rfl rfl (s.del 12)
    have s2 : Sat _ _ (RWObj _ _ (prO t.nodes a o) :: _) := Sat.rwMk rfl rfl ((s1.pull 2).pull 2)
    have s3 := ((((((s2.pull 7).pull 7).pull 7).pull 7).pull 7).pull 7)
    have s4 := s3.rwtPack hw hR
    have s5 := ((s4.pull 3).pull 3).pull 1
    exact s5) ⟨_, _, rfl, rfl⟩
end Go.SL

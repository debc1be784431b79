import Derived.Test.YtdeemlgkckpedaaGreatK7
set_option linter.unusedVariables false
set_option linter.unusedSimpArgs false
namespace Go.SL
open Go.Proofs

theorem cd_rwOpen {w0 : World} {n : Nat} {Q : Exit → Act → World → Prop} {f : Fr} {c : Code} {l : List HProp} {pm pr : Nat} {o : List Int} (h : ∀ a4 c4, CD Tryz.prog w0 n c Q f (Blk pm (.cells #[.pointer (some ⟨pr, 0, none⟩), .slice a4 o.length c4, .int .i64 (o.length : Int)] 108 (0, 0)) :: Row 3 encI64 (.slice a4 o.length c4) o :: l)) : CD Tryz.prog w0 n c Q f (RWObj pm pr o :: l) := fun a w r s =>
 let ⟨a4, c4, s'⟩ := s.rwOpen
 h a4 c4 a w r s'
theorem cd_rtreeOpen {w0 : World} {n : Nat} {Q : Exit → Act → World → Prop} {f : Fr} {c : Code} {l : List HProp} {pr : Nat} {t : TreeS} (h : ∀ a1 c1 a2 c2 a3 c3 R Sl Pa, t.WF → RTreeOf t R Sl Pa → CD Tryz.prog w0 n c Q f (Blk pr (.cells #[.slice a1 R.length c1, .slice a2 Sl.length c2, .slice a3 Pa.length c3, .int .i64 t.most] 56 (0, 0)) :: Row 32 encRoot (.slice a1 R.length c1) R :: Row 3 encI64 (.slice a2 Sl.length c2) Sl :: Row 32 encRoot (.slice a3 Pa.length c3) Pa :: l)) : CD Tryz.prog w0 n c Q f (RTreeObj pr t :: l) := fun a w r s =>
 let ⟨a1, c1, a2, c2, a3, c3, R, Sl, Pa, hw, hR, s'⟩ := s.rtreeOpen
 h a1 c1 a2 c2 a3 c3 R Sl Pa hw hR a w r s'
theorem Sat.rwtPack {w0 w : World} {l : List HProp} {pm pr : Nat} {t : TreeS} {a1 a2 a3 a4 : Option Addr} {c1 c2 c3 c4 : Nat} {R : List Root} {Sl : List Int} {Pa : List Root} {o : List Int} (hw : t.WF) (hR : RTreeOf t R Sl Pa) (s : Sat w0 w (Blk pm (.cells #[.pointer (some ⟨pr, 0, none⟩), .slice a4 o.length c4, .int .i64 (o.length : Int)] 108 (0, 0)) :: Row 3 encI64 (.slice a4 o.length c4) o :: Blk pr (.cells #[.slice a1 R.length c1, .slice a2 Sl.length c2, .slice a3 Pa.length c3, .int .i64 t.most] 56 (0, 0)) :: Row 32 encRoot (.slice a1 R.length c1) R :: Row 3 encI64 (.slice a2 Sl.length c2) Sl :: Row 32 encRoot (.slice a3 Pa.length c3) Pa :: l)) : Sat w0 w (RTreeObj pr t :: RWObj pm pr o :: l) := by
 have s2 : Sat _ _ (RWObj pm pr o :: Blk pr (.cells #[.slice a1 R.length c1, .slice a2 Sl.length c2, .slice a3 Pa.length c3, .int .i64 t.most] 56 (0, 0)) :: Row 32 encRoot (.slice a1 R.length c1) R :: Row 3 encI64 (.slice a2 Sl.length c2) Sl :: Row 32 encRoot (.slice a3 Pa.length c3) Pa :: l) := Sat.rwMk rfl rfl s
 have s3 : Sat _ _ (Blk pr (.cells #[.slice a1 R.length c1, .slice a2 Sl.length c2, .slice a3 Pa.length c3, .int .i64 t.most] 56 (0, 0)) :: Row 32 encRoot (.slice a1 R.length c1) R :: Row 3 encI64 (.slice a2 Sl.length c2) Sl :: Row 32 encRoot (.slice a3 Pa.length c3) Pa :: RWObj pm pr o :: l) := (((s2.pull 4).pull 4).pull 4).pull 4
 exact Sat.rtreeMk hw hR rfl rfl rfl s3

set_option maxRecDepth 100000 in
set_option maxHeartbeats 1000000 in
theorem ROwnOfO_calls {w0 w : World} {l : List HProp} (pm pr : Nat) (t : TreeS) (a1 a2 a3 a4 : Option Addr) (c1 c2 c3 c4 : Nat) (R : List Root) (Sl : List Int) (Pa : List Root) (o : List Int) (r : Root) (hs : Sat w0 w ((Blk pr (.cells #[.slice a1 R.length c1, .slice a2 Sl.length c2, .slice a3 Pa.length c3, .int .i64 t.most] 56 (0, 0))) :: (Row 32 encRoot (.slice a1 R.length c1) R) :: (Row 3 encI64 (.slice a2 Sl.length c2) Sl) :: (Row 32 encRoot (.slice a3 Pa.length c3) Pa) :: (Blk pm (.cells #[.pointer (some ⟨pr, 0, none⟩), .slice a4 o.length c4, .int .i64 (o.length : Int)] 108 (0, 0))) :: (Row 3 encI64 (.slice a4 o.length c4) o) :: l)) (hw : t.WF) (hR : RTreeOf t R Sl Pa) (h1 : o.length ≤ t.nodes.length) :
  Calls Tryz.prog 90 #[.pointer (some ⟨pm, 0, none⟩), .agg (rootC r).toArray] w (Ret w0 fun v l' => v = .int .i64 (ofF t o.length (oA o) r) ∧ l' = Blk pr (.cells #[.slice a1 R.length c1, .slice a2 Sl.length c2, .slice a3 Pa.length c3, .int .i64 t.most] 56 (0, 0)) :: Row 32 encRoot (.slice a1 R.length c1) R :: Row 3 encI64 (.slice a2 Sl.length c2) Sl :: Row 32 encRoot (.slice a3 Pa.length c3) Pa :: Blk pm (.cells #[.pointer (some ⟨pr, 0, none⟩), .slice a4 o.length c4, .int .i64 (o.length : Int)] 108 (0, 0)) :: Row 3 encI64 (.slice a4 o.length c4) o :: l) := by
 have hle := hw.le; have hm2 := hw.m2; have hpa := hw.pa; have hnd := hw.nd; have hne := hw.ne
 have hRl : R.length = t.nodes.length := by rw [hR.r, List.length_map]
 have hSl : Sl.length = t.nodes.length := by rw [hR.s, List.length_map]
 have hPl : Pa.length = t.nodes.length := by rw [hR.p]; unfold parR; rw [List.length_map]
 have hpl : ∀ r, rplace R r = t.place r := fun r => by rw [hR.r, rplace_map]
 have hrp := ofF_rpl (t := t) (n := o.length) (f := (oA o)) (r := r)
 refine calls_enter Tryz.func90 rfl rfl rfl hs ?_
 refine Z3k ?_; intro bx1
 refine Z20 ?_
 refine Z76 ?_
 refine Z76 ?_
 refine Z76 ?_
 refine Zcj ?_
 refine Z3z ?_
 refine Z43 ?_
 refine cd_cond rfl (fun hb1 => ?_) (fun hb1 => ?_)
 ·have hp1 := hb1
  (try simp only [bn] at hp1)
  obtain ⟨i, hri, hin, hof⟩ : ∃ i : Nat, rplW t o.length r = i ∧ i < o.length ∧ ofF t o.length (oA o) r = (oA o) i := by
   rcases hrp with ⟨h, _⟩ | h
   ·omega
   exact h
  rw [hri]
  refine Z17 ?_
  refine oq (op_field fld_108_1 rfl) ?_
  refine oq (op_ld 4 sc_54 rfl rfl rfl) ?_
  refine Z4 ?_
  refine oq (op_index i sB_54 rfl rfl rfl (rds_row 5 rfl rfl) rfl (by omega)) ?_
  refine oq (op_ldw sc_3 (rds_row 5 rfl rfl) rfl (by omega) rfl) ?_
  refine Z10 ?_
  refine Zs ?_
  exact px_ret1 rfl (v := .int _ _) rfl (fun _ s => (s.del 6)) ⟨congrArg (Value.int .i64) (by rw [hof]; exact (oA_get _).symm), rfl⟩
 have hp1 := hb1
 (try simp only [bn] at hp1)
 refine Za ?_
 refine Z1g ?_
 exact px_ret1 rfl (v := .int _ _) rfl (fun _ s => (s.del 6)) ⟨congrArg (Value.int .i64) (by rcases hrp with ⟨_, h⟩ | ⟨i, h, _⟩; exact h.symm; omega), rfl⟩

set_option maxRecDepth 100000 in
set_option maxHeartbeats 1000000 in
theorem RPAllN_calls {w0 w : World} {l : List HProp} (pm pr : Nat) (t : TreeS) (o : List Int) (r : Root) (hs : Sat w0 w ((RTreeObj pr t) :: (RWObj pm pr o) :: l)) (hi : idxOf t.nodes r = none) :
  Calls Tryz.prog 71 #[.pointer (some ⟨pm, 0, none⟩), .agg (rootC r).toArray] w (Ret w0 fun v l' => v = .tuple #[.pointer none, .bool false] ∧ l' = RTreeObj pr t :: RWObj pm pr o :: l) := by
 obtain ⟨a1, c1, a2, c2, a3, c3, R, Sl, Pa, hw, hR, hs⟩ := hs.rtreeOpen
 obtain ⟨a4, c4, hs⟩ := (hs.pull 4).rwOpen
 have hle := hw.le; have hm2 := hw.m2; have hpa := hw.pa; have hnd := hw.nd; have hne := hw.ne
 have hRl : R.length = t.nodes.length := by rw [hR.r, List.length_map]
 have hSl : Sl.length = t.nodes.length := by rw [hR.s, List.length_map]
 have hPl : Pa.length = t.nodes.length := by rw [hR.p]; unfold parR; rw [List.length_map]
 have hpl : ∀ r, rplace R r = t.place r := fun r => by rw [hR.r, rplace_map]
 have hpl0 : t.place r = -1 := by unfold TreeS.place; rw [hi]
 refine calls_enter Tryz.func71 rfl rfl rfl hs ?_
 refine Z46 ?_; intro bx1
 refine Z9 ?_
 refine Z7 ?_
 refine Z9n ?_
 refine Z6 ?_
 refine Z9p ?_
 refine Z8o ?_
 refine Z1a ?_
 refine rg_i (wn_none rfl) (os_back (os_pull4 (os_pull4 (os_call cb_48 rfl (fun w s => RPlaceO_calls _ _ _ _ _ _ _ _  s )))) (fun _ s => (((((((s.pull 6).pull 6).pull 3).pull 3).pull 6).pull 6).pull 6))) rfl rfl ?_; rintro _ _ ⟨rfl, rfl⟩; rw [hpl, hpl0]; refine ⟨[], rfl, ?_⟩
 refine Z3q ?_
 refine Ze ?_
 refine Z2w ?_
 refine cd_cond rfl (fun hb1 => ?_) (fun hb1 => ?_)
 ·have hp1 := hb1
  (try simp only [bn] at hp1)
  refine Z2k ?_
  refine Zm ?_
  exact px_ret2 rfl (v1 := .pointer _) (v2 := .bool _) (l' := RTreeObj pr t :: RWObj pm pr o :: l) rfl rfl (fun _ s => ((s.del 0)).rwtPack hw hR) ⟨rfl, rfl⟩
 have hp1 := hb1
 (try simp only [bn] at hp1)
 exact absurd hb1 (by decide)

set_option maxRecDepth 100000 in
set_option maxHeartbeats 1000000 in
theorem RPAllS_calls {w0 w : World} {l : List HProp} (pm pr : Nat) (t : TreeS) (o : List Int) (r : Root) (a : Nat) (hs : Sat w0 w ((RTreeObj pr t) :: (RWObj pm pr o) :: l)) (hi : idxOf t.nodes r = some a) (h1 : o.length ≤ t.nodes.length) :
  Calls Tryz.prog 71 #[.pointer (some ⟨pm, 0, none⟩), .agg (rootC r).toArray] w (Ret w0 fun v l' => ∃ qm qr, v = .tuple #[.pointer (some ⟨qm, 0, none⟩), .bool true] ∧ l' = RTreeObj qr (prT t a) :: RWObj qm qr (prO t.nodes a o) :: RTreeObj pr t :: RWObj pm pr o :: l) := by
 obtain ⟨a1, c1, a2, c2, a3, c3, R, Sl, Pa, hw, hR, hs⟩ := hs.rtreeOpen
 obtain ⟨a4, c4, hs⟩ := (hs.pull 4).rwOpen
 have hle := hw.le; have hm2 := hw.m2; have hpa := hw.pa; have hnd := hw.nd; have hne := hw.ne
 have hRl : R.length = t.nodes.length := by rw [hR.r, List.length_map]
 have hSl : Sl.length = t.nodes.length := by rw [hR.s, List.length_map]
 have hPl : Pa.length = t.nodes.length := by rw [hR.p]; unfold parR; rw [List.length_map]
 have hpl : ∀ r, rplace R r = t.place r := fun r => by rw [hR.r, rplace_map]
 have hla := idxOf_lt hi
 have hpl0 : t.place r = (a : Int) := by unfold TreeS.place; rw [hi]
 have hRr : ∀ q (h : q < R.length), R[q] = rtA t.nodes q := fun q h => by simp only [hR.r, List.getElem_map]; exact (rtA_get (by omega)).symm
 have hSr : ∀ q (h : q < Sl.length), Sl[q] = slA t.nodes q := fun q h => by simp only [hR.s, List.getElem_map]; exact (slA_get (by omega)).symm
 have hPr : ∀ q (h : q < Pa.length), q ≠ a → Pa[q] = upR t.nodes a q := fun q h hq => by unfold upR; rw [if_neg hq, List.getD_eq_getElem?_getD, List.getElem?_eq_getElem (by rw [← hR.p]; exact h)]; simp only [hR.p]; rfl
 refine calls_enter Tryz.func71 rfl rfl rfl hs ?_
 refine Z46 ?_; intro bx1
 refine Z9 ?_
 refine Z7 ?_
 refine Z9n ?_
 refine Z6 ?_
 refine Z9p ?_
 refine Z8o ?_
 refine Z1a ?_
 refine rg_i (wn_none rfl) (os_back (os_pull4 (os_pull4 (os_call cb_48 rfl (fun w s => RPlaceO_calls _ _ _ _ _ _ _ _  s )))) (fun _ s => (((((((s.pull 6).pull 6).pull 3).pull 3).pull 6).pull 6).pull 6))) rfl rfl ?_; rintro _ _ ⟨rfl, rfl⟩; rw [hpl, hpl0]; refine ⟨[], rfl, ?_⟩
 refine Z3q ?_
 refine Ze ?_
 refine Z2w ?_
 refine cd_cond rfl (fun hb1 => ?_) (fun hb1 => ?_)
 ·have hp1 := hb1
  (try simp only [bn] at hp1)
  omega
 have hp1 := hb1
 (try simp only [bn] at hp1)
 refine Za ?_
 refine Z17 ?_
 refine Z6n ?_
 refine oq (op_ld 1 sc_57 rfl rfl rfl) ?_
 refine Zj ?_
 refine oq (op_field fld_56_3 rfl) ?_
 refine oq (op_ld 3 sc_3 rfl rfl rfl) ?_
 refine oq (op_build (L := [_, _, _, _]) (vs := [(3, .int _ _)]) bB_56 rfl ⟨⟨rfl, rfl⟩, trivial⟩ rfl) ?_
 refine Z2c ?_; intro bx2
 refine Zf ?_
 refine Z16 ?_
 refine Z1f ?_
 refine Z4q ?_
 refine Zj ?_
 refine Z6n ?_
 refine oq (op_ld 2 sc_57 rfl rfl rfl) ?_
 refine Zj ?_
 refine Z96 ?_
 refine oq (op_ld 4 sc_52 rfl rfl rfl) ?_
 refine Z6c ?_
 refine Z12 ?_
 refine cd_imp (fun _ s => Sat.rowNil (E := encI64) (e := 3) s) ?_
 refine cd_imp (fun _ s => Sat.rowNil (E := encRoot) (e := 32) s) ?_
 refine cd_imp (fun _ s => Sat.rowNil (E := encI64) (e := 3) s) ?_
 refine cd_imp (fun _ s => Sat.rowNil (E := encRoot) (e := 32) s) ?_
 refine cd_pull4 ?_
 refine cd_loop2 (α := Nat × Option Addr × Nat × Option Addr × Nat × Option Addr × Nat × Option Addr × Nat) [(8, 11), (37, 109)] (fun x => [(8, .slice x.2.2.2.2.2.2.2.1 (prOm t.nodes a x.1 o).length x.2.2.2.2.2.2.2.2), (37, .int .i64 (x.1 : Int))]) (fun x => Blk bx2 (.cells #[.slice x.2.1 (prR t.nodes a x.1).length x.2.2.1, .slice x.2.2.2.1 (prS t.nodes a x.1).length x.2.2.2.2.1, .slice x.2.2.2.2.2.1 (prP t.nodes a x.1).length x.2.2.2.2.2.2.1, .int .i64 t.most] 56 (0, 0)) :: Row 32 encRoot (.slice x.2.1 (prR t.nodes a x.1).length x.2.2.1) (prR t.nodes a x.1) :: Row 3 encI64 (.slice x.2.2.2.1 (prS t.nodes a x.1).length x.2.2.2.2.1) (prS t.nodes a x.1) :: Row 32 encRoot (.slice x.2.2.2.2.2.1 (prP t.nodes a x.1).length x.2.2.2.2.2.2.1) (prP t.nodes a x.1) :: Row 3 encI64 (.slice x.2.2.2.2.2.2.2.1 (prOm t.nodes a x.1 o).length x.2.2.2.2.2.2.2.2) (prOm t.nodes a x.1 o) :: _) (fun x => x.1 ≤ t.nodes.length) (fun x => t.nodes.length - x.1) (0, none, 0, none, 0, none, 0, none, 0) (Nat.zero_le _) ⟨rfl, rfl, trivial⟩ (fun _ s => s) ?_
 rintro ⟨i, b1, d1, b2, d2, b3, d3, b4, d4⟩ hi2 f; (try dsimp only at hi2 ⊢)
 refine Zn ?_
 refine cd_cond rfl (fun hb2 => ?_) (fun hb2 => ?_)
 ·have hp2 := hb2
  (try simp only [bn] at hp2)
  have hi1 : i < t.nodes.length := by omega
  refine Z5p ?_
  refine oq (op_index i sB_52 rfl rfl rfl (rds_row 9 rfl rfl) rfl (by omega)) ?_
  refine oq (op_ldaw (L := rootC _) ag_32 (rds_row 9 rfl rfl) rfl (by omega) rfl (rootC_ta _)) ?_
  refine Z19 ?_; intro bx3
  refine Zq ?_
  refine Z2b ?_
  refine Z2j ?_
  rw [hRr i (by omega)]
  refine Z7 ?_
  refine cd_draw (M := []) mx [6] (by kernel_rfl) ?_
  refine Z6 ?_
  refine Z9p ?_
  refine rg_q (wn_none rfl) (op_ld 7 sc_57 rfl rfl rfl) rfl rfl ?_
  refine rg_q (wn_none rfl) (op_lda (L := rootC _) 6 ag_32 rfl rfl (rootC_take' _) (by simp [rootC_len])) rfl rfl ?_
  refine Z1a ?_
  refine rg_i (wn_none rfl) (os_back (os_pull12 (os_pull12 (os_pull12 (os_pull12 (os_call cb_89 rfl (fun w s => RBelowO_calls _ _ _ _ _ _ _ _ _ _ _ _ _  s (by assumption) (by assumption))))))) (fun _ s => ((((s.push 12).push 12).push 12).push 12))) rfl rfl ?_; rintro _ l ⟨rfl, rfl⟩; rw [below_rt hw hi hi1]; refine ⟨[], rfl, ?_⟩
  refine rg_q (wn_none rfl) (op_not rfl) rfl rfl ?_
  refine Zz ?_
  refine cd_cond rfl (fun hb3 => ?_) (fun hb3 => ?_)
  ·have hp3 := hb3
   (try simp only [bn] at hp3)
   have hbe : ¬ belI t.nodes a (i : Int) = true := by simpa using hb3
   have eR : (prR t.nodes a (i + 1)) = (prR t.nodes a i) := by unfold prR; rw [selI_succ, if_neg hbe]
   have eS : (prS t.nodes a (i + 1)) = (prS t.nodes a i) := by unfold prS; rw [selI_succ, if_neg hbe]
   have eP : (prP t.nodes a (i + 1)) = (prP t.nodes a i) := by unfold prP; rw [selI_succ, if_neg hbe]
   have eO : (prOm t.nodes a (i + 1) o) = (prOm t.nodes a i o) := by unfold prOm; rw [selI_succ, if_neg hbe]
   refine cd_exit ?_
   refine Zbq ?_
   refine px_then ?_
   refine Z22 ?_
   refine Zbp ?_
   refine px_loop2 (i + 1, b1, d1, b2, d2, b3, d3, b4, d4) (by dsimp only; omega) (by (try dsimp only); omega) ⟨congrArg (fun q => Value.slice b4 (List.length q) d4) eO.symm, congrArg (Value.int .i64) (by simp), trivial⟩ ?_ (fun _ s => (by (try dsimp only); rw [eR, eS, eP, eO]; exact (s.del 0)))
   exact Z2
  have hp3 := hb3
  (try simp only [bn] at hp3)
  have hbe : belI t.nodes a (i : Int) = true := by simpa using hb3
  have eR : (prR t.nodes a (i + 1)) = (prR t.nodes a i) ++ [rtA t.nodes i] := by unfold prR; rw [selI_succ, if_pos hbe, List.map_append]; rfl
  have eS : (prS t.nodes a (i + 1)) = (prS t.nodes a i) ++ [slA t.nodes i] := by unfold prS; rw [selI_succ, if_pos hbe, List.map_append]; rfl
  have eP : (prP t.nodes a (i + 1)) = (prP t.nodes a i) ++ [upR t.nodes a i] := by unfold prP; rw [selI_succ, if_pos hbe, List.map_append]; rfl
  have eO : (prOm t.nodes a (i + 1) o) = (prOm t.nodes a i o) ++ [oA o i] := by unfold prOm; rw [selI_succ, if_pos hbe, List.map_append]; rfl
  refine Za ?_
  refine cd_pull2 ?_
  refine Z7 ?_
  refine Z99 ?_
  dsimp only [List.take_succ_cons, List.take_zero, List.drop_succ_cons, List.drop_zero]
  refine Zi ?_
  refine Z6 ?_
  refine Z7d ?_
  refine rg_q (wn_none rfl) (op_ld 1 sc_52 rfl rfl rfl) rfl rfl ?_
  refine Z1a ?_
  refine Z9a ?_; intro ao1
  refine Zck ?_; intro ao2 ac2
  refine rg_tail2 ?_
  refine Zj ?_
  refine Z96 ?_
  refine Zu ?_
  refine Z9b ?_
  refine Z0 ?_
  refine cd_pull4 ?_
  refine Z7 ?_
  refine cd_drawt (M := [_]) mx [15, 16] 17 (by kernel_rfl) rfl rfl ?_
  dsimp only [List.take_succ_cons, List.take_zero, List.drop_succ_cons, List.drop_zero]
  refine Zi ?_
  refine Z6 ?_
  refine rg_q (wn_none rfl) (op_field fld_56_1 rfl) rfl rfl ?_
  refine Za6 ?_
  refine Z6 ?_
  refine Z9p ?_
  refine rg_q (wn_none rfl) (op_ld 7 sc_57 rfl rfl rfl) rfl rfl ?_
  refine Z8y ?_
  refine rg_q (wn_none rfl) (op_field fld_56_1 rfl) rfl rfl ?_
  refine rg_q (wn_none rfl) (op_ld 9 sc_54 rfl rfl rfl) rfl rfl ?_
  refine Zb ?_
  refine rg_q (wn_none rfl) (op_index i sB_54 rfl rfl rfl (rds_row 11 rfl rfl) rfl (by omega)) rfl rfl ?_
  refine rg_q (wn_none rfl) (op_ldw sc_3 (rds_row 11 rfl rfl) rfl (by omega) rfl) rfl rfl ?_
  refine rg_i (wn_none rfl) (os_bslice (E := encI64) [_] (ys := [_]) sB_54 zv_3 rfl rfl rfl rfl (by decide)) rfl rfl ?_; rintro _ _ ⟨ao3, rfl, rfl⟩; refine ⟨[_, _], rfl, ?_⟩
  refine rg_i (wn_none rfl) (os_pull1 (os_append (E := encI64) rfl sB_54 zv_3 rfl rfl rfl (fun w s => (rds_row 1 rfl rfl) [] w s) rfl (by simp; have := rk_le t.nodes a i; have := (rfl : (prR t.nodes a i).length = _); simp [prR, prS, prP, prOm] at *; unfold rk at *; omega) (by unfold maxLen; simp; have := rk_le t.nodes a i; have := (rfl : (prR t.nodes a i).length = _); simp [prR, prS, prP, prOm] at *; unfold rk at *; omega))) rfl rfl ?_; rintro _ _ ⟨ao4, ac4, rfl, rfl⟩; refine ⟨[_, _], rfl, ?_⟩
  refine rg_tail2 ?_
  refine Zj ?_
  refine oq (op_field fld_56_1 rfl) ?_
  refine ol_pull2 ?_
  refine Zc3 ?_
  refine Z0 ?_
  rw [hSr i (by omega)]
  refine Z17 ?_
  refine Z6n ?_
  refine oq (op_ld 9 sc_57 rfl rfl rfl) ?_
  refine Z9w ?_
  refine oq (op_ld 11 sc_52 rfl rfl rfl) ?_
  refine Z4 ?_
  refine oq (op_index i sB_52 rfl rfl rfl (rds_row 14 rfl rfl) rfl (by omega)) ?_
  refine oq (op_ldaw (L := rootC _) ag_32 (rds_row 14 rfl rfl) rfl (by omega) rfl (rootC_ta _)) ?_
  refine Z19 ?_; intro bx4
  refine Z2b ?_
  refine Z0 ?_
  refine Ze ?_
  refine Z4 ?_
  refine Z4x ?_
  refine Z0 ?_
  refine cd_cond rfl (fun hb4 => ?_) (fun hb4 => ?_)
  ·have hp4 := hb4
   (try simp only [bn] at hp4)
   have hup : Root.zero = upR t.nodes a i := by unfold upR; rw [if_pos (by omega)]
   refine Z22 ?_
   refine Z5w ?_
   refine oN (os_storera _ ag_32 rfl rfl (Free.zero _)) ?_; rintro _ _ ⟨rfl, rfl⟩; rw [hup]
   refine Zek ?_
   refine cd_pull7 ?_
   refine Z7 ?_
   refine Z99 ?_
   dsimp only [List.take_succ_cons, List.take_zero, List.drop_succ_cons, List.drop_zero]
   refine Zi ?_
   refine Z6 ?_
   refine rg_q (wn_none rfl) (op_field fld_56_2 rfl) rfl rfl ?_
   refine rg_q (wn_none rfl) (op_ld 1 sc_52 rfl rfl rfl) rfl rfl ?_
   refine Z1a ?_
   refine Z9a ?_; intro ao5
   refine Zck ?_; intro ao6 ac6
   refine rg_tail2 ?_
   refine Z9w ?_
   refine Zu ?_
   refine Z9b ?_
   refine Z0 ?_
   refine Z22 ?_
   refine Zg ?_
   refine Z1j ?_
   refine oq (op_lda (L := rootC _) 8 ag_32 rfl rfl (rootC_take' _) (by simp [rootC_len])) ?_
   refine ol_pull12 ?_
   refine ol_pull12 ?_
   refine ol_pull16 ?_
   refine ol_pull16 ?_
   refine ol_pull16 ?_
   refine ol_pull16 ?_
   refine oi (os_call cb_90 rfl (fun w s => ROwnOfO_calls _ _ _ _ _ _ _ _ _ _ _ _ _ _ _ _  s (by assumption) (by assumption) (by first | assumption | omega))) ?_; rintro _ _ ⟨rfl, rfl⟩; rw [ofF_rt2 hw hi1]
   refine Z95 ?_; intro ao7
   refine ol_pull16 ?_
   refine Zdr ?_; intro ao8 ac8
   refine Z1f ?_
   refine Z2y ?_
   refine px_pull5 ?_
   refine px_pull5 ?_
   refine px_pull5 ?_
   refine px_pull5 ?_
   refine px_pull7 ?_
   refine px_pull7 ?_
   refine px_pull17 ?_
   refine px_pull7 ?_
   refine px_pull10 ?_
   refine px_pull13 ?_
   refine px_pull15 ?_
   refine px_pull12 ?_
   refine px_loop2 (i + 1, ao2, ac2, ao4, ac4, ao6, ac6, ao8, ac8) (by dsimp only; omega) (by (try dsimp only); omega) ⟨congrArg (fun q => Value.slice ao8 (List.length q) ac8) eO.symm, congrArg (Value.int .i64) (by simp), trivial⟩ ?_ (fun _ s => (by (try dsimp only); rw [eR, eS, eP, eO]; exact ((((((s.del 17).del 16).del 15).del 14).del 13).del 12)))
   exact Z2
  have hp4 := hb4
  (try simp only [bn] at hp4)
  have hup : Pa[i]'(by omega) = upR t.nodes a i := hPr i (by omega) (by omega)
  rw [hup]
  refine Za ?_
  refine cd_pull7 ?_
  refine Z7 ?_
  refine Z99 ?_
  dsimp only [List.take_succ_cons, List.take_zero, List.drop_succ_cons, List.drop_zero]
  refine Zi ?_
  refine Z6 ?_
  refine rg_q (wn_none rfl) (op_field fld_56_2 rfl) rfl rfl ?_
  refine rg_q (wn_none rfl) (op_ld 1 sc_52 rfl rfl rfl) rfl rfl ?_
  refine Z1a ?_
  refine Z9a ?_; intro ao9
  refine Zck ?_; intro ao10 ac10
  refine rg_tail2 ?_
  refine Z9w ?_
  refine Zu ?_
  refine Z9b ?_
  refine Z0 ?_
  refine Z22 ?_
  refine Zg ?_
  refine Z1j ?_
  refine oq (op_lda (L := rootC _) 8 ag_32 rfl rfl (rootC_take' _) (by simp [rootC_len])) ?_
  refine ol_pull12 ?_
  refine ol_pull12 ?_
  refine ol_pull16 ?_
  refine ol_pull16 ?_
  refine ol_pull16 ?_
  refine ol_pull16 ?_
  refine oi (os_call cb_90 rfl (fun w s => ROwnOfO_calls _ _ _ _ _ _ _ _ _ _ _ _ _ _ _ _  s (by assumption) (by assumption) (by first | assumption | omega))) ?_; rintro _ _ ⟨rfl, rfl⟩; rw [ofF_rt2 hw hi1]
  refine Z95 ?_; intro ao11
  refine ol_pull16 ?_
  refine Zdr ?_; intro ao12 ac12
  refine Z1f ?_
  refine Z2y ?_
  refine px_pull5 ?_
  refine px_pull5 ?_
  refine px_pull5 ?_
  refine px_pull5 ?_
  refine px_pull7 ?_
  refine px_pull7 ?_
  refine px_pull17 ?_
  refine px_pull7 ?_
  refine px_pull10 ?_
  refine px_pull13 ?_
  refine px_pull15 ?_
  refine px_pull12 ?_
  refine px_loop2 (i + 1, ao2, ac2, ao4, ac4, ao10, ac10, ao12, ac12) (by dsimp only; omega) (by (try dsimp only); omega) ⟨congrArg (fun q => Value.slice ao12 (List.length q) ac12) eO.symm, congrArg (Value.int .i64) (by simp), trivial⟩ ?_ (fun _ s => (by (try dsimp only); rw [eR, eS, eP, eO]; exact ((((((s.del 17).del 16).del 15).del 14).del 13).del 12)))
  exact Z2
 have hp2 := hb2
 (try simp only [bn] at hp2)
 have hie : i = t.nodes.length := by omega
 refine Zx ?_
 refine Zc ?_
 refine Zg ?_
 refine Zg ?_
 refine Z4b ?_
 refine oq (op_build (L := [_, _, _]) (vs := [(0, .pointer _), (1, .slice _ _ _), (2, .int _ _)]) bB_108 rfl ⟨⟨rfl, rfl⟩, ⟨rfl, rfl⟩, ⟨rfl, rfl⟩, trivial⟩ rfl) ?_
 refine Z2c ?_; intro bx5
 refine Zf ?_
 refine Zh ?_
 refine px_pull12 ?_
 refine px_pull12 ?_
 refine px_pull12 ?_
 refine px_pull12 ?_
 refine px_pull12 ?_
 refine px_pull12 ?_
 refine px_pull11 ?_
 refine px_pull7 ?_
 refine px_pull11 ?_
 refine px_pull11 ?_
 refine px_pull11 ?_
 refine px_pull11 ?_
 rw [hie]
 exact px_ret2 rfl (v1 := .pointer _) (v2 := .bool _) (l' := RTreeObj _ (prT t a) :: RWObj _ _ (prO t.nodes a o) :: RTreeObj pr t :: RWObj pm pr o :: l) rfl rfl (fun _ s => by
  have s1 : Sat _ _ (RTreeObj _ (prT t a) :: _) := Sat.rtreeMk (prT_wf hw hla) (pr_ref hw a) rfl rfl rfl (s.del 12)
  have s2 : Sat _ _ (RWObj _ _ (prO t.nodes a o) :: _) := Sat.rwMk rfl rfl ((s1.pull 2).pull 2)
  have s3 := ((((((s2.pull 7).pull 7).pull 7).pull 7).pull 7).pull 7)
  have s4 := s3.rwtPack hw hR
  have s5 := ((s4.pull 3).pull 3).pull 1
  exact s5) ⟨_, _, rfl, rfl⟩
end Go.SL

set_option linter.unusedVariables false
set_option linter.unusedSimpArgs false
namespace Go.SL
open Go.Proofs

theorem TabNewOk_calls {w0 w : World} {l : List HProp} (n sl : Int) (hs : Sat w0 w l) (h : 1 ≤ n ∧ n ≤ 64 ∧ 1 ≤ sl ∧ sl ≤ 32) :
  Calls Tryz.prog 55 #[.int .i64 n, .int .i64 sl] w (Ret w0 fun v l' => ∃ p, v = .pointer (some ⟨p, 0, none⟩) ∧ l' = TabObj p (TabS.new n.toNat sl) :: l) :=
 (New_calls n sl hs).mono fun e w' ⟨v, l', he, hp, hs'⟩ => by
  rcases hp with ⟨_, _, hb⟩ | ⟨p, hv, _, hl⟩
  ·omega
  exact ⟨v, l', he, ⟨p, hv, hl⟩, hs'⟩
theorem RTabNewOk_calls {w0 w : World} {l : List HProp} (n sl : Int) (hs : Sat w0 w l) (h : 1 ≤ n ∧ n ≤ 64 ∧ 1 ≤ sl ∧ sl ≤ 32) :
  Calls Tryz.prog 69 #[.int .i64 n, .int .i64 sl] w (Ret w0 fun v l' => ∃ p, v = .tuple #[.pointer (some ⟨p, 0, none⟩), .bool true] ∧ l' = RTabObj p (TabS.new n.toNat sl) :: l) :=
 (RNew_calls n sl hs).mono fun e w' ⟨v, l', he, hp, hs'⟩ => by
  rcases hp with ⟨_, _, hb⟩ | ⟨p, hv, _, hl⟩
  ·omega
  exact ⟨v, l', he, ⟨p, hv, hl⟩, hs'⟩
theorem RTNewOk_calls {w0 w : World} {l : List HProp} (r : Root) (slot most : Int) (hs : Sat w0 w l) (h : 1 ≤ most ∧ most ≤ 256 ∧ 0 ≤ slot ∧ slot ≤ 1073741824) :
  Calls Tryz.prog 68 #[.agg (rootC r).toArray, .int .i64 slot, .int .i64 most] w (Ret w0 fun v l' => ∃ p, v = .tuple #[.pointer (some ⟨p, 0, none⟩), .bool true] ∧ l' = RTreeObj p (TreeS.new r slot most) :: l) :=
 (RTNew_calls r slot most hs).mono fun e w' ⟨v, l', he, hp, hs'⟩ => by
  rcases hp with ⟨_, _, hb⟩ | ⟨p, hv, _, hl⟩
  ·omega
  exact ⟨v, l', he, ⟨p, hv, hl⟩, hs'⟩

set_option maxRecDepth 100000 in
set_option maxHeartbeats 1000000 in
theorem BNewN_calls {w0 w : World} {l : List HProp} (ao : Option Addr) (c : Nat) (xs : List Val) (n1 n2 n3 n4 n5 n6 n7 n8 n9 n10 n11 : Int) (hs : Sat w0 w (l)) (hg : goodC ⟨⟨ao, xs.length, c⟩, n1, n2, n3, n4, n5, n6, n7, n8, n9, n10, n11⟩ xs = false) (hr : Rds w0 l encVal ao xs) (hxl : xs.length ≤ 1000000) :
  Calls Tryz.prog 22 #[.agg (cfgC ⟨⟨ao, xs.length, c⟩, n1, n2, n3, n4, n5, n6, n7, n8, n9, n10, n11⟩).toArray] w (Ret w0 fun v l' => v = .pointer none ∧ l' = l) := by
 refine calls_enter Tryz.func22 rfl rfl rfl hs ?_
 refine Z46 ?_; intro bx1
 refine Z4n ?_
 refine Z4g ?_
 refine oi (os_call cb_51 rfl (fun w s => Good_calls _ _ _ _ _ _ _ _ _ _ _ _ _ _  s (hr.cons _) (by first | omega | (simp; done) | (simp; omega)))) ?_; rintro _ _ ⟨rfl, rfl⟩
 refine Z3m ?_
 refine Z0 ?_
 refine cd_cond rfl (fun hb1 => ?_) (fun hb1 => ?_)
 ·have hp1 := hb1
  (try simp only [bn] at hp1)
  refine Z2k ?_
  refine Z1h ?_
  refine Zs ?_
  exact px_ret1 rfl (v := .pointer _) rfl (fun _ s => (s.del 0)) ⟨rfl, rfl⟩
 have hp1 := hb1
 (try simp only [bn] at hp1)
 exact absurd hb1 (by rw [hg]; simp)

set_option maxRecDepth 100000 in
set_option maxHeartbeats 1000000 in
theorem RBNewN_calls {w0 w : World} {l : List HProp} (ao : Option Addr) (c : Nat) (xs : List Val) (n1 n2 n3 n4 n5 n6 n7 n8 n9 n10 n11 : Int) (hs : Sat w0 w (l)) (hg : goodC ⟨⟨ao, xs.length, c⟩, n1, n2, n3, n4, n5, n6, n7, n8, n9, n10, n11⟩ xs = false) (hr : Rds w0 l encVal ao xs) (hxl : xs.length ≤ 1000000) (hq : ∀ y ∈ xs, I64 y.stake ∧ y.key.length ≤ maxLen) :
  Calls Tryz.prog 38 #[.agg (cfgC ⟨⟨ao, xs.length, c⟩, n1, n2, n3, n4, n5, n6, n7, n8, n9, n10, n11⟩).toArray] w (Ret w0 fun v l' => v = .tuple #[.pointer none, .bool false] ∧ l' = l) := by
 refine calls_enter Tryz.func38 rfl rfl rfl hs ?_
 refine Z46 ?_; intro bx1
 refine Z3h ?_
 refine Z4g ?_
 refine oi (os_call cb_15 rfl (fun w s => RGood_calls _ _ _ _ _ _ _ _ _ _ _ _ _ _  s (hr.cons _) (by first | omega | (simp; done) | (simp; omega)) (by assumption))) ?_; rintro _ _ ⟨rfl, rfl⟩
 refine Z3m ?_
 refine Z0 ?_
 refine cd_cond rfl (fun hb1 => ?_) (fun hb1 => ?_)
 ·have hp1 := hb1
  (try simp only [bn] at hp1)
  refine Z2k ?_
  refine Zm ?_
  exact px_ret2 rfl (v1 := .pointer _) (v2 := .bool _) rfl rfl (fun _ s => (s.del 0)) ⟨rfl, rfl⟩
 have hp1 := hb1
 (try simp only [bn] at hp1)
 exact absurd hb1 (by rw [hg]; simp)

set_option maxRecDepth 100000 in
set_option maxHeartbeats 1000000 in
theorem BNewS_calls {w0 w : World} {l : List HProp} (ao : Option Addr) (c : Nat) (xs : List Val) (n1 n2 n3 n4 n5 n6 n7 n8 n9 n10 n11 : Int) (hs : Sat w0 w (l)) (hg : goodC ⟨⟨ao, xs.length, c⟩, n1, n2, n3, n4, n5, n6, n7, n8, n9, n10, n11⟩ xs = true) (hr : Rds w0 l encVal ao xs) :
  Calls Tryz.prog 22 #[.agg (cfgC ⟨⟨ao, xs.length, c⟩, n1, n2, n3, n4, n5, n6, n7, n8, n9, n10, n11⟩).toArray] w (Ret w0 fun v l' => ∃ pb pt pw pv, v = .pointer (some ⟨pb, 0, none⟩) ∧ l' = Blk pb (.cells #[.slice ao xs.length c, .int .i64 n1, .int .i64 n2, .int .i64 n3, .int .i64 n4, .int .i64 n5, .int .i64 n6, .int .i64 n7, .int .i64 n8, .int .i64 n9, .int .i64 n10, .int .i64 n11, .pointer (some ⟨pt, 0, none⟩), .pointer (some ⟨pw, 0, none⟩), .pointer (some ⟨pv, 0, none⟩)] 72 (0, 0)) :: TreeObj pt (TreeS.new (shaM ([116, 111, 108, 108, 101, 114] ++ bytesC ⟨⟨ao, xs.length, c⟩, n1, n2, n3, n4, n5, n6, n7, n8, n9, n10, n11⟩ xs)) 0 n3) :: WObj pw pt (TreeS.new (shaM ([116, 111, 108, 108, 101, 114] ++ bytesC ⟨⟨ao, xs.length, c⟩, n1, n2, n3, n4, n5, n6, n7, n8, n9, n10, n11⟩ xs)) 0 n3).nodes (ownE xs (effT (TabS.new xs.length n1)) (TreeS.new (shaM ([116, 111, 108, 108, 101, 114] ++ bytesC ⟨⟨ao, xs.length, c⟩, n1, n2, n3, n4, n5, n6, n7, n8, n9, n10, n11⟩ xs)) 0 n3).nodes) :: TabObj pv (TabS.new xs.length n1) :: l) := by
 have hbd := goodC_bd hg
 (try dsimp only at hbd)
 have hxl := hbd.2.2.1.2
 have hk := hbd.2.2.2
 refine calls_enter Tryz.func22 rfl rfl rfl hs ?_
 refine Z46 ?_; intro bx1
 refine Z4n ?_
 refine Z4g ?_
 refine oi (os_call cb_51 rfl (fun w s => Good_calls _ _ _ _ _ _ _ _ _ _ _ _ _ _  s (hr.cons _) (by omega))) ?_; rintro _ _ ⟨rfl, rfl⟩
 refine Z3m ?_
 refine Z0 ?_
 refine cd_cond rfl (fun hb1 => ?_) (fun hb1 => ?_)
 ·have hp1 := hb1
  (try simp only [bn] at hp1)
  exact absurd hb1 (by rw [hg]; simp)
 have hp1 := hb1
 (try simp only [bn] at hp1)
 refine Zr ?_
 refine cd_draw (M := []) mx [1, 4] (by kernel_rfl) ?_
 refine rg_q (wn_none rfl) (op_lda (L := cfgC _) 0 ag_24 rfl rfl (cfgC_ta _) (by simp [cfgC_len])) rfl rfl ?_
 refine rg_i (wn_none rfl) (os_call cb_53 rfl (fun w s => GRoot_calls _ _ _ _ _ _ _ _ _ _ _ _ _ _  s (hr.cons _) (by omega) hk)) rfl rfl ?_; rintro _ _ ⟨rfl, rfl⟩; refine ⟨[], rfl, ?_⟩
 refine Zeq ?_
 refine rg_i (wn_none rfl) (os_call cb_52 rfl (fun w s => TNewOk_calls _ _ _  s (by omega))) rfl rfl ?_; rintro _ _ ⟨np3, rfl, rfl⟩; refine ⟨[_], rfl, ?_⟩
 refine Z5b ?_
 refine Z6m ?_
 refine Z8z ?_
 refine Z5k ?_
 refine Z4o ?_
 refine Z7 ?_
 refine cd_drawt (M := []) mx [3, 9] 11 (by kernel_rfl) rfl rfl ?_
 dsimp only [List.take_succ_cons, List.take_zero, List.drop_succ_cons, List.drop_zero]
 refine rg_q (wn_none rfl) (op_lda (L := cfgC _) 1 ag_24 rfl rfl (cfgC_ta _) (by simp [cfgC_len])) rfl rfl ?_
 refine Zi ?_
 refine Zi ?_
 refine rg_i (wn_none rfl) (os_call cb_54 rfl (fun w s => WNew_calls _ _  s )) rfl rfl ?_; rintro _ _ ⟨pw4, rfl, rfl⟩; refine ⟨[_], rfl, ?_⟩
 refine rg_q (wn_none rfl) (op_field fld_24_0 rfl) rfl rfl ?_
 refine rg_q (wn_none rfl) (op_ld 1 sc_22 rfl rfl (show (cfgC _).toArray[0]? = some (.slice ao xs.length c) from cfgC_a0 _)) rfl rfl ?_
 refine rg_q (wn_none rfl) (op_len_slice Tryz.underlying22 rfl) rfl rfl ?_
 refine rg_q (wn_none rfl) (op_field fld_24_1 rfl) rfl rfl ?_
 refine rg_q (wn_none rfl) (op_ld 1 sc_3 rfl rfl (show (cfgC _).toArray[1]? = some (.int .i64 n1) from cfgC_a1 _)) rfl rfl ?_
 refine rg_i (wn_none rfl) (os_call cb_55 rfl (fun w s => TabNewOk_calls _ _  s (by omega))) rfl rfl ?_; rintro _ _ ⟨nv5, rfl, rfl⟩; rw [Int.toNat_natCast]; refine ⟨[_, _], rfl, ?_⟩
 refine rg_q (wn_none rfl) (op_build (L := [.slice ao xs.length c, .int .i64 n1, .int .i64 n2, .int .i64 n3, .int .i64 n4, .int .i64 n5, .int .i64 n6, .int .i64 n7, .int .i64 n8, .int .i64 n9, .int .i64 n10, .int .i64 n11, .pointer _, .pointer _, .pointer _]) (vs := [(0, .agg (cfgC ⟨⟨ao, xs.length, c⟩, n1, n2, n3, n4, n5, n6, n7, n8, n9, n10, n11⟩).toArray), (1, .pointer _), (2, .pointer _), (3, .pointer _)]) bB_72 rfl ⟨⟨rfl, rfl⟩, ⟨rfl, rfl⟩, ⟨rfl, rfl⟩, ⟨rfl, rfl⟩, trivial⟩ rfl) rfl rfl ?_
 refine rg_tail2 ?_
 refine Z2c ?_; intro bx2
 refine Zf ?_
 refine Z1h ?_
 exact px_ret1 rfl (v := .pointer _) (l' := _ :: TreeObj _ (TreeS.new (shaM ([116, 111, 108, 108, 101, 114] ++ bytesC ⟨⟨ao, xs.length, c⟩, n1, n2, n3, n4, n5, n6, n7, n8, n9, n10, n11⟩ xs)) 0 n3) :: WObj _ _ (TreeS.new (shaM ([116, 111, 108, 108, 101, 114] ++ bytesC ⟨⟨ao, xs.length, c⟩, n1, n2, n3, n4, n5, n6, n7, n8, n9, n10, n11⟩ xs)) 0 n3).nodes (ownE xs (effT (TabS.new xs.length n1)) (TreeS.new (shaM ([116, 111, 108, 108, 101, 114] ++ bytesC ⟨⟨ao, xs.length, c⟩, n1, n2, n3, n4, n5, n6, n7, n8, n9, n10, n11⟩ xs)) 0 n3).nodes) :: TabObj _ (TabS.new xs.length n1) :: l) rfl (fun _ s => by rw [newB_own]; exact (((((s.del 4).pull 1).pull 2).pull 3).pull 3)) ⟨_, _, _, _, rfl, rfl⟩

set_option maxRecDepth 100000 in
set_option maxHeartbeats 1000000 in
theorem RBNewS_calls {w0 w : World} {l : List HProp} (ao : Option Addr) (c : Nat) (xs : List Val) (n1 n2 n3 n4 n5 n6 n7 n8 n9 n10 n11 : Int) (hs : Sat w0 w (l)) (hg : goodC ⟨⟨ao, xs.length, c⟩, n1, n2, n3, n4, n5, n6, n7, n8, n9, n10, n11⟩ xs = true) (hr : Rds w0 l encVal ao xs) (hq : ∀ y ∈ xs, I64 y.stake ∧ y.key.length ≤ maxLen) :
  Calls Tryz.prog 38 #[.agg (cfgC ⟨⟨ao, xs.length, c⟩, n1, n2, n3, n4, n5, n6, n7, n8, n9, n10, n11⟩).toArray] w (Ret w0 fun v l' => ∃ pm pr pq, v = .tuple #[.pointer (some ⟨pm, 0, none⟩), .bool true] ∧ l' = Blk pm (.cells #[.slice ao xs.length c, .int .i64 n1, .int .i64 n2, .int .i64 n3, .int .i64 n4, .int .i64 n5, .int .i64 n6, .int .i64 n7, .int .i64 n8, .int .i64 n9, .int .i64 n10, .int .i64 n11, .pointer (some ⟨pr, 0, none⟩), .pointer (some ⟨pq, 0, none⟩)] 60 (0, 0)) :: RTreeObj pr (TreeS.new (shaM ([116, 111, 108, 108, 101, 114] ++ bytesC ⟨⟨ao, xs.length, c⟩, n1, n2, n3, n4, n5, n6, n7, n8, n9, n10, n11⟩ xs)) 0 n3) :: RTabObj pq (TabS.new xs.length n1) :: l) := by
 have hbd := goodC_bd hg
 (try dsimp only at hbd)
 have hxl := hbd.2.2.1.2
 have hk := hbd.2.2.2
 refine calls_enter Tryz.func38 rfl rfl rfl hs ?_
 refine Z46 ?_; intro bx1
 refine Z3h ?_
 refine Z4g ?_
 refine oi (os_call cb_15 rfl (fun w s => RGood_calls _ _ _ _ _ _ _ _ _ _ _ _ _ _  s (hr.cons _) (by omega) (by assumption))) ?_; rintro _ _ ⟨rfl, rfl⟩
 refine Z3m ?_
 refine Z0 ?_
 refine cd_cond rfl (fun hb1 => ?_) (fun hb1 => ?_)
 ·have hp1 := hb1
  (try simp only [bn] at hp1)
  exact absurd hb1 (by rw [hg]; simp)
 have hp1 := hb1
 (try simp only [bn] at hp1)
 refine Zr ?_
 refine cd_draw (M := []) mx [1, 4] (by kernel_rfl) ?_
 refine rg_q (wn_none rfl) (op_lda (L := cfgC _) 0 ag_24 rfl rfl (cfgC_ta _) (by simp [cfgC_len])) rfl rfl ?_
 refine rg_i (wn_none rfl) (os_call cb_23 rfl (fun w s => RRoot_calls _ _ _ _ _ _ _ _ _ _ _ _ _ _  s (hr.cons _) (by omega) hk)) rfl rfl ?_; rintro _ _ ⟨rfl, rfl⟩; refine ⟨[], rfl, ?_⟩
 refine Zeq ?_
 refine rg_i (wn_none rfl) (os_call cb_68 rfl (fun w s => RTNewOk_calls _ _ _  s (by omega))) rfl rfl ?_; rintro _ _ ⟨nr3, rfl, rfl⟩; refine ⟨[_], rfl, ?_⟩
 refine Z5b ?_
 refine Z6m ?_
 refine Z6s ?_
 refine Z5k ?_
 refine Z2r ?_
 refine rg_nil_then1 ?_
 refine Z1 ?_
 refine Z3w ?_
 refine oq (op_ld 1 sc_22 rfl rfl (show (cfgC _).toArray[0]? = some (.slice ao xs.length c) from cfgC_a0 _)) ?_
 refine Z4e ?_
 refine oq (op_field fld_24_1 rfl) ?_
 refine oq (op_ld 1 sc_3 rfl rfl (show (cfgC _).toArray[1]? = some (.int .i64 n1) from cfgC_a1 _)) ?_
 refine oi (os_call cb_69 rfl (fun w s => RTabNewOk_calls _ _  s (by omega))) ?_; rintro _ _ ⟨nq4, rfl, rfl⟩; rw [Int.toNat_natCast]
 refine Z3a ?_
 refine Z5x ?_
 refine Z5e ?_
 refine Zf ?_
 refine Z9 ?_
 refine Z1 ?_
 refine oq (op_lda (L := cfgC _) 2 ag_24 rfl rfl (cfgC_ta _) (by simp [cfgC_len])) ?_
 refine Z1j ?_
 refine Z1j ?_
 refine oq (op_build (L := [.slice ao xs.length c, .int .i64 n1, .int .i64 n2, .int .i64 n3, .int .i64 n4, .int .i64 n5, .int .i64 n6, .int .i64 n7, .int .i64 n8, .int .i64 n9, .int .i64 n10, .int .i64 n11, .pointer _, .pointer _]) (vs := [(0, .agg (cfgC ⟨⟨ao, xs.length, c⟩, n1, n2, n3, n4, n5, n6, n7, n8, n9, n10, n11⟩).toArray), (1, .pointer _), (2, .pointer _)]) bB_60 rfl ⟨⟨rfl, rfl⟩, ⟨rfl, rfl⟩, ⟨rfl, rfl⟩, trivial⟩ rfl) ?_
 refine Z2c ?_; intro bx2
 refine Zf ?_
 refine Zh ?_
 exact px_ret2 rfl (v1 := .pointer _) (v2 := .bool _) (l' := _ :: RTreeObj _ (TreeS.new (shaM ([116, 111, 108, 108, 101, 114] ++ bytesC ⟨⟨ao, xs.length, c⟩, n1, n2, n3, n4, n5, n6, n7, n8, n9, n10, n11⟩ xs)) 0 n3) :: RTabObj _ (TabS.new xs.length n1) :: l) rfl rfl (fun _ s => ((((s.del 3).pull 1).pull 2).pull 2)) ⟨_, _, _, rfl, rfl⟩

set_option maxRecDepth 100000 in
set_option maxHeartbeats 1000000 in
theorem RBTake_calls {w0 w : World} {l : List HProp} (pm pr pq : Nat) (ao : Option Addr) (c : Nat) (xs : List Val) (n1 n2 n3 n4 n5 n6 n7 n8 n9 n10 n11 : Int) (t : TreeS) (tb : TabS) (u : Vote) (hs : Sat w0 w ((Blk pm (.cells #[.slice ao xs.length c, .int .i64 n1, .int .i64 n2, .int .i64 n3, .int .i64 n4, .int .i64 n5, .int .i64 n6, .int .i64 n7, .int .i64 n8, .int .i64 n9, .int .i64 n10, .int .i64 n11, .pointer (some ⟨pr, 0, none⟩), .pointer (some ⟨pq, 0, none⟩)] 60 (0, 0))) :: (RTreeObj pr t) :: (RTabObj pq tb) :: l))  :
  Calls Tryz.prog 43 #[.pointer (some ⟨pm, 0, none⟩), .agg (voteC u).toArray] w (Ret w0 fun v l' => v = .int .i64 (BookS.take ⟨t, tb⟩ u).1 ∧ l' = Blk pm (.cells #[.slice ao xs.length c, .int .i64 n1, .int .i64 n2, .int .i64 n3, .int .i64 n4, .int .i64 n5, .int .i64 n6, .int .i64 n7, .int .i64 n8, .int .i64 n9, .int .i64 n10, .int .i64 n11, .pointer (some ⟨pr, 0, none⟩), .pointer (some ⟨pq, 0, none⟩)] 60 (0, 0)) :: RTreeObj pr t :: RTabObj pq (BookS.take ⟨t, tb⟩ u).2 :: l) := by
 refine calls_enter Tryz.func43 rfl rfl rfl hs ?_
 refine Zw ?_; intro bx1
 refine Zd ?_
 rcases hix : idxOf t.nodes u.target with _ | j
 ·
  have hna : t.node (t.place u.target) = none := by unfold TreeS.place; rw [hix]; rfl
  have hpj : t.place u.target = -1 := by unfold TreeS.place; rw [hix]
  refine Z7 ?_
  refine cd_draw (M := []) mx [6] (by kernel_rfl) ?_
  refine Z6 ?_
  refine Z9s ?_
  refine Z8o ?_
  refine Zak ?_
  refine rg_q (wn_none rfl) (op_lda (L := rootC _) 0 ag_32 rfl rfl (voteC_af2 _) (by simp [voteC_len])) rfl rfl ?_
  refine rg_i (wn_none rfl) (os_back (os_pull2 (os_call cb_48 rfl (fun w s => RPlace_calls _ _ _  s ))) (fun _ s => ((((s.pull 3).pull 1).pull 3).pull 3))) rfl rfl ?_; rintro _ _ ⟨rfl, rfl⟩; rw [hpj]; refine ⟨[], rfl, ?_⟩
  refine Z3q ?_
  refine Z7 ?_
  refine cd_pull2 ?_
  refine cd_rtreeOpen ?_; intro a1 c1 a2 c2 a3 c3 R Sl Pa hw hR
  have hSl : Sl.length = t.nodes.length := by rw [hR.s, List.length_map]
  have hSr : ∀ q (h : q < Sl.length), Sl[q] = slA t.nodes q := fun q h => by simp only [hR.s, List.getElem_map]; exact (slA_get (by omega)).symm
  refine Z1i ?_
  refine Zb ?_
  refine Z5f ?_
  refine Z5g ?_
  refine rg_split 15 rfl (fun hb1 => ?_) (fun hb1 => ?_)
  ·have hp1 := hb1
   (try simp only [bn] at hp1)
   have hunk := unk_none hix
   refine Z40 ?_
   refine Z40 ?_
   refine Z40 ?_
   refine Z40 ?_
   refine Z40 ?_
   refine Z40 ?_
   refine Za3 ?_
   refine rg_q (wn_none rfl) (op_pick_t (v := .bool _) rfl hb1 rfl) rfl rfl ?_
   refine Zz ?_
   refine Z3s ?_
   refine Z1z ?_
   rw [btake_unk hunk]; (try dsimp only)
   exact Zds
  have hp1 := hb1
  (try simp only [bn] at hp1)
  exact absurd hb1 (by decide)
 have hjl := idxOf_lt hix
 have hpj : t.place u.target = (j : Int) := by unfold TreeS.place; rw [hix]
 have hna : t.node (t.place u.target) = t.nodes[j]? := by rw [hpj, TreeS.node_at]
 refine Z7 ?_
 refine cd_draw (M := []) mx [6] (by kernel_rfl) ?_
 refine Z6 ?_
 refine Z9s ?_
 refine Z8o ?_
 refine Zak ?_
 refine rg_q (wn_none rfl) (op_lda (L := rootC _) 0 ag_32 rfl rfl (voteC_af2 _) (by simp [voteC_len])) rfl rfl ?_
 refine rg_i (wn_none rfl) (os_back (os_pull2 (os_call cb_48 rfl (fun w s => RPlace_calls _ _ _  s ))) (fun _ s => ((((s.pull 3).pull 1).pull 3).pull 3))) rfl rfl ?_; rintro _ _ ⟨rfl, rfl⟩; rw [hpj]; refine ⟨[], rfl, ?_⟩
 refine Z3q ?_
 refine Z7 ?_
 refine cd_pull2 ?_
 refine cd_rtreeOpen ?_; intro a1 c1 a2 c2 a3 c3 R Sl Pa hw hR
 have hSl : Sl.length = t.nodes.length := by rw [hR.s, List.length_map]
 have hSr : ∀ q (h : q < Sl.length), Sl[q] = slA t.nodes q := fun q h => by simp only [hR.s, List.getElem_map]; exact (slA_get (by omega)).symm
 refine Z1i ?_
 refine Zb ?_
 refine Z5f ?_
 refine Z5g ?_
 refine rg_split 15 rfl (fun hb2 => ?_) (fun hb2 => ?_)
 ·have hp2 := hb2
  (try simp only [bn] at hp2)
  exact absurd (of_decide_eq_true hb2) (by omega)
 have hp2 := hb2
 (try simp only [bn] at hp2)
 refine rg_q (wn_some rfl rfl rfl hb2 rfl) (op_move (v := .pointer _) rfl) rfl rfl ?_
 refine rg_q (wn_some rfl rfl rfl hb2 rfl) (op_nilck rfl) rfl rfl ?_
 refine rg_q (wn_some rfl rfl rfl hb2 rfl) (op_field fld_60_1 rfl) rfl rfl ?_
 refine rg_q (wn_some rfl rfl rfl hb2 rfl) (op_ld 5 sc_57 rfl rfl rfl) rfl rfl ?_
 refine rg_q (wn_some rfl rfl rfl hb2 rfl) (op_nilck rfl) rfl rfl ?_
 refine rg_q (wn_some rfl rfl rfl hb2 rfl) (op_field fld_56_1 rfl) rfl rfl ?_
 refine rg_q (wn_some rfl rfl rfl hb2 rfl) (op_ld 0 sc_54 rfl rfl rfl) rfl rfl ?_
 refine Zaq ?_
 refine rg_q (wn_some rfl rfl rfl hb2 rfl) (op_index j sB_54 rfl rfl rfl (rds_row 2 rfl rfl) rfl (by omega)) rfl rfl ?_
 refine rg_q (wn_some rfl rfl rfl hb2 rfl) (op_ldw sc_3 (rds_row 2 rfl rfl) rfl (by omega) rfl) rfl rfl ?_
 refine rg_q (wn_some rfl rfl rfl hb2 rfl) (op_field fld_36_1 rfl) rfl rfl ?_
 refine rg_q (wn_some rfl rfl rfl hb2 rfl) (op_ld 4 sc_3 rfl rfl (voteC_a1 _)) rfl rfl ?_
 refine rg_q (wn_some rfl rfl rfl hb2 rfl) (op_gt rfl rfl) rfl rfl ?_
 refine rg_q (wn_none rfl) (op_pick_f (v := .bool _) rfl hb2 rfl) rfl rfl ?_
 refine Zz ?_
 refine cd_cond rfl (fun hb3 => ?_) (fun hb3 => ?_)
 ·have hp3 := hb3
  (try simp only [bn] at hp3)
  have hunk : unkB t u = true := by rw [unk_some hix]; exact decide_eq_true (by rw [← hSr j (by omega)]; omega)
  refine Z1z ?_
  rw [btake_unk hunk]; (try dsimp only)
  exact Zds
 have hp3 := hb3
 (try simp only [bn] at hp3)
 have hbt := btake_yes (tb := tb) (show unkB t u = false by rw [unk_some hix]; exact decide_eq_false (by rw [← hSr j (by omega)]; omega))
 refine Za ?_
 refine cd_imp (fun _ s => Sat.rtreeMk hw hR rfl rfl rfl s) ?_
 refine cd_pull3 ?_
 refine Z7 ?_
 refine Z5v ?_
 refine Zby ?_
 refine rg_q (wn_none rfl) (op_ld 2 sc_58 rfl rfl rfl) rfl rfl ?_
 refine rg_q (wn_none rfl) (op_lda (L := voteC _) 1 ag_36 rfl rfl (voteC_ta _) (by simp [voteC_len])) rfl rfl ?_
 refine rg_i (wn_none rfl) (os_call cb_70 rfl (fun w s => RTake_calls _ _ _  s )) rfl rfl ?_; rintro _ _ ⟨rfl, rfl⟩; refine ⟨[_], rfl, ?_⟩
 refine Z4o ?_
 refine cd_ret ?_
 rw [hbt]
 exact px_ret1 rfl (v := .int _ _) rfl (fun _ s => (((s.del 2).pull 1).pull 2)) ⟨rfl, rfl⟩

set_option maxRecDepth 100000 in
set_option maxHeartbeats 1000000 in
theorem RBKeepN_calls {w0 w : World} {l : List HProp} (pm pr pq : Nat) (ao : Option Addr) (c : Nat) (xs : List Val) (n1 n2 n3 n4 n5 n6 n7 n8 n9 n10 n11 : Int) (t : TreeS) (r : Root) (hs : Sat w0 w ((Blk pm (.cells #[.slice ao xs.length c, .int .i64 n1, .int .i64 n2, .int .i64 n3, .int .i64 n4, .int .i64 n5, .int .i64 n6, .int .i64 n7, .int .i64 n8, .int .i64 n9, .int .i64 n10, .int .i64 n11, .pointer (some ⟨pr, 0, none⟩), .pointer (some ⟨pq, 0, none⟩)] 60 (0, 0))) :: (RTreeObj pr t) :: l)) (hi : idxOf t.nodes r = none) :
  Calls Tryz.prog 44 #[.pointer (some ⟨pm, 0, none⟩), .agg (rootC r).toArray] w (Ret w0 fun v l' => v = .int .i64 7 ∧ l' = Blk pm (.cells #[.slice ao xs.length c, .int .i64 n1, .int .i64 n2, .int .i64 n3, .int .i64 n4, .int .i64 n5, .int .i64 n6, .int .i64 n7, .int .i64 n8, .int .i64 n9, .int .i64 n10, .int .i64 n11, .pointer (some ⟨pr, 0, none⟩), .pointer (some ⟨pq, 0, none⟩)] 60 (0, 0)) :: RTreeObj pr t :: l) := by
 refine calls_enter Tryz.func44 rfl rfl rfl hs ?_
 refine Zw ?_; intro bx1
 refine Zd ?_
 refine cd_pull2 ?_
 refine Z7 ?_
 refine cd_draw (M := [_]) mx [4, 6] (by kernel_rfl) ?_
 refine Z6 ?_
 refine Z9s ?_
 refine Z8o ?_
 refine rg_i (wn_none rfl) (os_call cb_47 rfl (fun w s => RWNew_calls _ _  s )) rfl rfl ?_; rintro _ _ ⟨pm1, rfl, rfl⟩; refine ⟨[_, _], rfl, ?_⟩
 refine Z1a ?_
 refine rg_i (wn_none rfl) (os_pull1 (os_call cb_71 rfl (fun w s => RPAllN_calls _ _ _ _ _  s (by assumption)))) rfl rfl ?_; rintro _ _ ⟨rfl, rfl⟩; refine ⟨[_, _], rfl, ?_⟩
 refine Z5b ?_
 refine Z6m ?_
 refine Z6s ?_
 refine Z5k ?_
 refine Z2r ?_
 refine rg_nil_then2 ?_
 refine Zv ?_
 refine Z2v ?_
 refine Z2x ?_
 exact px_ret1 rfl (v := .int _ _) rfl (fun _ s => (((s.del 2).del 1).pull 1)) ⟨rfl, rfl⟩

set_option maxRecDepth 100000 in
set_option maxHeartbeats 1000000 in
theorem RBKeepS_calls {w0 w : World} {l : List HProp} (pm pr pq : Nat) (ao : Option Addr) (c : Nat) (xs : List Val) (n1 n2 n3 n4 n5 n6 n7 n8 n9 n10 n11 : Int) (t : TreeS) (r : Root) (a : Nat) (hs : Sat w0 w ((Blk pm (.cells #[.slice ao xs.length c, .int .i64 n1, .int .i64 n2, .int .i64 n3, .int .i64 n4, .int .i64 n5, .int .i64 n6, .int .i64 n7, .int .i64 n8, .int .i64 n9, .int .i64 n10, .int .i64 n11, .pointer (some ⟨pr, 0, none⟩), .pointer (some ⟨pq, 0, none⟩)] 60 (0, 0))) :: (RTreeObj pr t) :: l)) (hi : idxOf t.nodes r = some a) :
  Calls Tryz.prog 44 #[.pointer (some ⟨pm, 0, none⟩), .agg (rootC r).toArray] w (Ret w0 fun v l' => ∃ qr, v = .int .i64 0 ∧ l' = Blk pm (.cells #[.slice ao xs.length c, .int .i64 n1, .int .i64 n2, .int .i64 n3, .int .i64 n4, .int .i64 n5, .int .i64 n6, .int .i64 n7, .int .i64 n8, .int .i64 n9, .int .i64 n10, .int .i64 n11, .pointer (some ⟨qr, 0, none⟩), .pointer (some ⟨pq, 0, none⟩)] 60 (0, 0)) :: RTreeObj qr (prT t a) :: l) := by
 refine calls_enter Tryz.func44 rfl rfl rfl hs ?_
 refine Zw ?_; intro bx1
 refine Zd ?_
 refine cd_pull2 ?_
 refine Z7 ?_
 refine cd_draw (M := [_]) mx [4, 6] (by kernel_rfl) ?_
 refine Z6 ?_
 refine Z9s ?_
 refine Z8o ?_
 refine rg_i (wn_none rfl) (os_call cb_47 rfl (fun w s => RWNew_calls _ _  s )) rfl rfl ?_; rintro _ _ ⟨pm1, rfl, rfl⟩; refine ⟨[_, _], rfl, ?_⟩
 refine Z1a ?_
 refine rg_i (wn_none rfl) (os_pull1 (os_call cb_71 rfl (fun w s => RPAllS_calls _ _ _ _ _ _  s hi (Nat.le_of_eq (growO_len (Nat.zero_le _)))))) rfl rfl ?_; rintro _ _ ⟨qm2, qr2, rfl, rfl⟩; refine ⟨[_, _, _, _], rfl, ?_⟩
 refine Z5b ?_
 refine Z6m ?_
 refine Z6s ?_
 refine Z5k ?_
 refine Z2r ?_
 refine rg_nil_then4 ?_
 refine Zv ?_
 refine Z2v ?_
 refine Z2u ?_
 refine cd_pull1 ?_
 refine cd_rwOpen ?_; intro a4 c4
 refine Z42 ?_
 refine Zj ?_
 refine Z6n ?_
 refine oq (op_ld 0 sc_57 rfl rfl rfl) ?_
 refine Zj ?_
 refine oq (op_field fld_60_1 rfl) ?_
 refine Z2f ?_
 refine oN (os_store (v := .pointer _) sc_57 rfl rfl rfl rfl (Free.zero _) rfl) ?_; rintro _ _ ⟨rfl, rfl⟩
 refine Z0 ?_
 refine Z1g ?_
 exact px_ret1 rfl (v := .int _ _) rfl (fun _ s => (((((s.del 6).del 5).del 4).del 2).del 1)) ⟨_, rfl, rfl⟩

set_option maxRecDepth 100000 in
set_option maxHeartbeats 1000000 in
theorem bname_calls {w0 w : World} {l : List HProp} (ao : Option Addr) (c : Nat) (xs : List Val) (n1 n2 n3 n4 n5 n6 n7 n8 n9 n10 n11 : Int) (k : Int) (hs : Sat w0 w (l)) (hr : Rds w0 l encVal ao xs) (hxl : xs.length ≤ 64) (hk : ∀ y ∈ xs, y.key.length ≤ 32) :
  Calls Tryz.prog 41 #[.agg (cfgC ⟨⟨ao, xs.length, c⟩, n1, n2, n3, n4, n5, n6, n7, n8, n9, n10, n11⟩).toArray, .int .i64 k] w (Ret w0 fun v l' => v = .agg (rootC (bName (shaM ([116, 111, 108, 108, 101, 114] ++ bytesC ⟨⟨ao, xs.length, c⟩, n1, n2, n3, n4, n5, n6, n7, n8, n9, n10, n11⟩ xs)) k)).toArray ∧ l' = l) := by
 refine calls_enter Tryz.func41 rfl rfl rfl hs ?_
 refine Zw ?_; intro bx1
 refine Z19 ?_; intro bx2
 refine Z0 ?_
 refine Z5q ?_
 refine cd_cond rfl (fun hb1 => ?_) (fun hb1 => ?_)
 ·have hp1 := hb1
  (try simp only [bn] at hp1)
  refine Z1 ?_
  refine oq (op_lda (L := cfgC _) 1 ag_24 rfl rfl (cfgC_ta _) (by simp [cfgC_len])) ?_
  refine oi (os_call cb_23 rfl (fun w s => RRoot_calls _ _ _ _ _ _ _ _ _ _ _ _ _ _  s ((hr.cons _).cons _) (by omega) (by assumption))) ?_; rintro _ _ ⟨rfl, rfl⟩
  refine Z41 ?_
  refine Zs ?_
  exact px_rv1 rfl (rv_cella 0 ag_32 rfl rfl (rootC_take' _) (by simp [rootC_len])) (fun _ s => ((s.del 1).del 0)) ⟨by unfold bName; rw [if_pos (by omega)], rfl⟩
 have hp1 := hb1
 (try simp only [bn] at hp1)
 refine Za ?_
 refine Z1c ?_
 refine oi (os_call cb_24 rfl (fun w s => Name_calls _  s )) ?_; rintro _ _ ⟨rfl, rfl⟩
 refine Z41 ?_
 exact px_rv1 rfl (rv_cella 0 ag_32 rfl rfl (rootC_take' _) (by simp [rootC_len])) (fun _ s => ((s.del 1).del 0)) ⟨by unfold bName; rw [if_neg (by omega)], rfl⟩
end Go.SL

set_option linter.unusedVariables false
set_option linter.unusedSimpArgs false
namespace Go.SL
section
variable {vs : List Val} {E : Nat → Option Root} {ns : List Node} {g : Root} {b : BookS} {a : VAct}
theorem stepB_0 (h : a.kind = 0) : stepB g b a = { b with t := (b.t.add (bName g a.root) (bName g a.parent) a.slot).2 } := if_pos h
theorem stepB_1 (h : a.kind = 1) : stepB g b a = { b with tb := (b.take ⟨a.who, a.slot, bName g a.root⟩).2 } := by unfold stepB; rw [if_neg (by omega), if_pos h]
theorem stepB_2 (h : a.kind = 2) : stepB g b a = { b with t := (keepT b.t (bName g a.root)).2 } := by unfold stepB; rw [if_neg (by omega), if_neg (by omega), if_pos h]
theorem stepB_3 (h0 : a.kind ≠ 0) (h1 : a.kind ≠ 1) (h2 : a.kind ≠ 2) : stepB g b a = { b with tb := b.tb.forget a.slot } := by unfold stepB; rw [if_neg h0, if_neg h1, if_neg h2]
theorem keepT_no {t : TreeS} {r : Root} (h : idxOf t.nodes r = none) : keepT t r = (7, t) := by unfold keepT; rw [h]
theorem keepT_yes {t : TreeS} {r : Root} {x : Nat} (h : idxOf t.nodes r = some x) : keepT t r = (0, prT t x) := by unfold keepT; rw [h]
def ownK (vs : List Val) (E : Nat → Option Root) (ns : List Node) (k : Nat) : List Int := tab ns.length fun i => sg (shareE vs E (rtA ns i)) k
theorem ownK_len (k : Nat) : (ownK vs E ns k).length = ns.length := tab_len _ _
theorem ownK_zero : ownK vs E ns 0 = growO ns.length [] := by
  refine oA_ext (by rw [ownK_len, growO_len (Nat.zero_le _)]) fun j => ?_
  rw [grow_oA, oA_out (o := ([] : List Int)) (Nat.zero_le _)]
  rcases Nat.lt_or_ge j ns.length with hj | hj
  · exact tab_oA hj
  · exact oA_out (by rw [ownK_len]; exact hj)
theorem ownK_at {i k : Nat} (h : i < ns.length) (h2 : i < (ownK vs E ns k).length) : (ownK vs E ns k)[i] = sg (shareE vs E (rtA ns i)) k := tab_get h2
theorem ownK_step {t : TreeS} (hw : t.WF) {k x : Nat} (hx : x < t.nodes.length) (hE : E k = some (rtA t.nodes x)) : (ownK vs E t.nodes k).set x (sg (shareE vs E (rtA t.nodes x)) k + stk vs k) = ownK vs E t.nodes (k + 1) := tab_upd fun j hj => by
  rw [sg_succ]
  unfold shareE
  rw [hE]
  by_cases e : j = x
  · subst e; rw [if_pos rfl, if_pos rfl]
  · rw [if_neg e, if_neg (fun q => e (rtA_inj hw.nd hj hx (Option.some.inj q).symm)), Int.add_zero]
theorem ownK_skip {k : Nat} (h : ∀ j, j < ns.length → E k ≠ some (rtA ns j)) : ownK vs E ns (k + 1) = ownK vs E ns k := tab_congr fun j hj => by
  rw [sg_succ]
  unfold shareE
  rw [if_neg (h j hj), Int.add_zero]
theorem effT_row {tb : TabS} {k : Nat} (h : k < tb.latest.length) (ho : tb.out.length = tb.latest.length) : effT tb k = if (tb.latest[k]).isSome = true ∧ tb.out[k]'(by omega) = false then some ((tb.latest[k]).getD Vote.zero).target else none := by
  have hv : tb.isV (k : Int) = true := TabS.isV_iff.2 ⟨by omega, by omega⟩
  have h1 : tb.counts (k : Int) = !tb.out[k]'(by omega) := by
    unfold TabS.counts; rw [hv, Bool.true_and, Int.toNat_natCast]
    congr 1
    simp [List.getD_eq_getElem?_getD, show k < tb.out.length by omega]
  have h2 : tb.vote (k : Int) = tb.latest[k] := by
    unfold TabS.vote; rw [if_pos hv, Int.toNat_natCast]
    simp [List.getD_eq_getElem?_getD, h]
  unfold effT
  rw [h1, h2]
  cases hl : tb.latest[k] with
  | none => simp
  | some v => cases tb.out[k]'(by omega) <;> simp
end
def alQ : Cfg := ⟨⟨none, 1, 1⟩, 4, 1, 9, 1, 1, 1, 1, 1, 1, 1, 1⟩
def alX : List Val := [⟨5, [107]⟩]
def alF : Root := shaM ([116, 111, 108, 108, 101, 114] ++ bytesC alQ alX)
def alB0 : BookS := ⟨TreeS.new alF 0 9, TabS.new alX.length 4⟩
def alB1 : BookS := ⟨(alB0.t.add (nameR 1) alF 2).2, alB0.tb⟩
def alB2 : BookS := ⟨alB1.t, (alB1.take ⟨0, 2, nameR 1⟩).2⟩
theorem alB_0 (ao : Option Addr) (m k : Nat) : shaM ([116, 111, 108, 108, 101, 114] ++ bytesC ⟨⟨ao, m, k⟩, 4, 1, 9, 1, 1, 1, 1, 1, 1, 1, 1⟩ alX) = alF := rfl
theorem alB_g (ao : Option Addr) (m k : Nat) : goodC ⟨⟨ao, m, k⟩, 4, 1, 9, 1, 1, 1, 1, 1, 1, 1, 1⟩ alX = true := by simp [goodC, numsC, inR, totF, valOK, alX]
theorem alB_1 : headW alB0.t.nodes (ownB alX alB0) = alF := by decide +kernel
theorem alB_2 : (alB0.t.add (nameR 1) alF 2).1 = 0 := by decide +kernel
theorem alB_3 : (alB1.take ⟨0, 1, nameR 1⟩) = (6, alB1.tb) := if_pos (by decide +kernel)
theorem alB_4 : (alB1.take ⟨0, 2, nameR 1⟩).1 = 0 := by decide +kernel
theorem alB_5 : ofF alB2.t (ownB alX alB2).length (sumN alB2.t.nodes (ownB alX alB2)) alF = 5 := by decide +kernel
theorem alB_6 : headW alB2.t.nodes (ownB alX alB2) = nameR 1 := by decide +kernel
theorem alB_p : 0 < (ownB alX alB0).length := by decide +kernel
theorem alB_q : 0 < (ownB alX alB2).length := by decide +kernel
end Go.SL

set_option linter.unusedVariables false
set_option linter.unusedSimpArgs false
namespace Go.SL
open Go.Proofs

theorem opens_Val {H : Type} {enc : TypeId × Value → H} {W : World} : Opens enc Tryz.prog W 66 (fun cs => ∃ a : Val, cs = encVal.cells a ∧ (I64 a.stake ∧ a.key.length ≤ maxLen)) := fun fuel cs x h => by
 obtain ⟨hl, hf⟩ := opens_field Tryz.underlying66 h
 have hc : Tryz.prog.cellsOf 66 = 2 := by kernel_rfl
 rw [hc] at hl
 obtain ⟨n0, h0, w0⟩ := hf 0 0 3 1 _ rfl (by kernel_rfl) (opens_int Tryz.underlying3)
 obtain ⟨n1, h1, w1⟩ := hf 1 1 9 1 _ rfl (by kernel_rfl) (opens_string Tryz.underlying9)
 refine ⟨⟨n0, n1⟩, ?_, wf_i64 w0, w1⟩
 have e0 : cs.drop 0 = (cs.drop 0).take 1 ++ cs.drop 1 := seg cs 0 1
 have e1 : cs.drop 1 = (cs.drop 1).take 1 ++ cs.drop 2 := seg cs 1 1
 have eN : cs.drop 2 = [] := List.drop_eq_nil_of_le (by omega)
 have e : cs.drop 0 = [.int .i64 n0] ++ ([.string (B n1)] ++ ([])) := by rw [e0, h0, e1, h1, eN]
 rw [List.drop_zero] at e
 rw [e]
 show _ = valC _
 unfold valC
 simp

theorem opens_Cfg {H : Type} {enc : TypeId × Value → H} {W : World} : Opens enc Tryz.prog W 24 (fun cs => ∃ a : Cfg, cs = encCfg.cells a ∧ ((∃ ys : List Val, a.vs.n = ys.length ∧ a.vs.n ≤ a.vs.c ∧ a.vs.c ≤ maxLen ∧ Shows W encVal a.vs.a ys ∧ ∀ y ∈ ys, I64 y.stake ∧ y.key.length ≤ maxLen) ∧ I64 a.epoch ∧ I64 a.committee ∧ I64 a.nodes ∧ I64 a.orphans ∧ I64 a.early ∧ I64 a.quota ∧ I64 a.peers ∧ I64 a.bytes ∧ I64 a.window ∧ I64 a.ban ∧ I64 a.decay)) := fun fuel cs x h => by
 obtain ⟨hl, hf⟩ := opens_field Tryz.underlying24 h
 have hc : Tryz.prog.cellsOf 24 = 12 := by kernel_rfl
 rw [hc] at hl
 obtain ⟨ao0, c0, ys0, h0, hl0, hm0, hs0, hq0⟩ := hf 0 0 22 1 _ rfl (by kernel_rfl) (opens_slice encVal Tryz.underlying22 (by kernel_rfl) opens_Val)
 obtain ⟨n1, h1, w1⟩ := hf 1 1 3 1 _ rfl (by kernel_rfl) (opens_int Tryz.underlying3)
 obtain ⟨n2, h2, w2⟩ := hf 2 2 3 1 _ rfl (by kernel_rfl) (opens_int Tryz.underlying3)
 obtain ⟨n3, h3, w3⟩ := hf 3 3 3 1 _ rfl (by kernel_rfl) (opens_int Tryz.underlying3)
 obtain ⟨n4, h4, w4⟩ := hf 4 4 3 1 _ rfl (by kernel_rfl) (opens_int Tryz.underlying3)
 obtain ⟨n5, h5, w5⟩ := hf 5 5 3 1 _ rfl (by kernel_rfl) (opens_int Tryz.underlying3)
 obtain ⟨n6, h6, w6⟩ := hf 6 6 3 1 _ rfl (by kernel_rfl) (opens_int Tryz.underlying3)
 obtain ⟨n7, h7, w7⟩ := hf 7 7 3 1 _ rfl (by kernel_rfl) (opens_int Tryz.underlying3)
 obtain ⟨n8, h8, w8⟩ := hf 8 8 3 1 _ rfl (by kernel_rfl) (opens_int Tryz.underlying3)
 obtain ⟨n9, h9, w9⟩ := hf 9 9 3 1 _ rfl (by kernel_rfl) (opens_int Tryz.underlying3)
 obtain ⟨n10, h10, w10⟩ := hf 10 10 3 1 _ rfl (by kernel_rfl) (opens_int Tryz.underlying3)
 obtain ⟨n11, h11, w11⟩ := hf 11 11 3 1 _ rfl (by kernel_rfl) (opens_int Tryz.underlying3)
 refine ⟨⟨⟨ao0, ys0.length, c0⟩, n1, n2, n3, n4, n5, n6, n7, n8, n9, n10, n11⟩, ?_, ⟨ys0, rfl, hl0, hm0, hs0, hq0⟩, wf_i64 w1, wf_i64 w2, wf_i64 w3, wf_i64 w4, wf_i64 w5, wf_i64 w6, wf_i64 w7, wf_i64 w8, wf_i64 w9, wf_i64 w10, wf_i64 w11⟩
 have e0 : cs.drop 0 = (cs.drop 0).take 1 ++ cs.drop 1 := seg cs 0 1
 have e1 : cs.drop 1 = (cs.drop 1).take 1 ++ cs.drop 2 := seg cs 1 1
 have e2 : cs.drop 2 = (cs.drop 2).take 1 ++ cs.drop 3 := seg cs 2 1
 have e3 : cs.drop 3 = (cs.drop 3).take 1 ++ cs.drop 4 := seg cs 3 1
 have e4 : cs.drop 4 = (cs.drop 4).take 1 ++ cs.drop 5 := seg cs 4 1
 have e5 : cs.drop 5 = (cs.drop 5).take 1 ++ cs.drop 6 := seg cs 5 1
 have e6 : cs.drop 6 = (cs.drop 6).take 1 ++ cs.drop 7 := seg cs 6 1
 have e7 : cs.drop 7 = (cs.drop 7).take 1 ++ cs.drop 8 := seg cs 7 1
 have e8 : cs.drop 8 = (cs.drop 8).take 1 ++ cs.drop 9 := seg cs 8 1
 have e9 : cs.drop 9 = (cs.drop 9).take 1 ++ cs.drop 10 := seg cs 9 1
 have e10 : cs.drop 10 = (cs.drop 10).take 1 ++ cs.drop 11 := seg cs 10 1
 have e11 : cs.drop 11 = (cs.drop 11).take 1 ++ cs.drop 12 := seg cs 11 1
 have eN : cs.drop 12 = [] := List.drop_eq_nil_of_le (by omega)
 have e : cs.drop 0 = [.slice ao0 ys0.length c0] ++ ([.int .i64 n1] ++ ([.int .i64 n2] ++ ([.int .i64 n3] ++ ([.int .i64 n4] ++ ([.int .i64 n5] ++ ([.int .i64 n6] ++ ([.int .i64 n7] ++ ([.int .i64 n8] ++ ([.int .i64 n9] ++ ([.int .i64 n10] ++ ([.int .i64 n11] ++ ([])))))))))))) := by rw [e0, h0, e1, h1, e2, h2, e3, h3, e4, h4, e5, h5, e6, h6, e7, h7, e8, h8, e9, h9, e10, h10, e11, h11, eN]
 rw [List.drop_zero] at e
 rw [e]
 show _ = cfgC _
 unfold cfgC
 simp

theorem opens_VAct {H : Type} {enc : TypeId × Value → H} {W : World} : Opens enc Tryz.prog W 49 (fun cs => ∃ a : VAct, cs = encVAct.cells a ∧ (I64 a.kind ∧ I64 a.root ∧ I64 a.parent ∧ I64 a.slot ∧ I64 a.who)) := fun fuel cs x h => by
 obtain ⟨hl, hf⟩ := opens_field Tryz.underlying49 h
 have hc : Tryz.prog.cellsOf 49 = 5 := by kernel_rfl
 rw [hc] at hl
 obtain ⟨n0, h0, w0⟩ := hf 0 0 3 1 _ rfl (by kernel_rfl) (opens_int Tryz.underlying3)
 obtain ⟨n1, h1, w1⟩ := hf 1 1 3 1 _ rfl (by kernel_rfl) (opens_int Tryz.underlying3)
 obtain ⟨n2, h2, w2⟩ := hf 2 2 3 1 _ rfl (by kernel_rfl) (opens_int Tryz.underlying3)
 obtain ⟨n3, h3, w3⟩ := hf 3 3 3 1 _ rfl (by kernel_rfl) (opens_int Tryz.underlying3)
 obtain ⟨n4, h4, w4⟩ := hf 4 4 3 1 _ rfl (by kernel_rfl) (opens_int Tryz.underlying3)
 refine ⟨⟨n0, n1, n2, n3, n4⟩, ?_, wf_i64 w0, wf_i64 w1, wf_i64 w2, wf_i64 w3, wf_i64 w4⟩
 have e0 : cs.drop 0 = (cs.drop 0).take 1 ++ cs.drop 1 := seg cs 0 1
 have e1 : cs.drop 1 = (cs.drop 1).take 1 ++ cs.drop 2 := seg cs 1 1
 have e2 : cs.drop 2 = (cs.drop 2).take 1 ++ cs.drop 3 := seg cs 2 1
 have e3 : cs.drop 3 = (cs.drop 3).take 1 ++ cs.drop 4 := seg cs 3 1
 have e4 : cs.drop 4 = (cs.drop 4).take 1 ++ cs.drop 5 := seg cs 4 1
 have eN : cs.drop 5 = [] := List.drop_eq_nil_of_le (by omega)
 have e : cs.drop 0 = [.int .i64 n0] ++ ([.int .i64 n1] ++ ([.int .i64 n2] ++ ([.int .i64 n3] ++ ([.int .i64 n4] ++ ([]))))) := by rw [e0, h0, e1, h1, e2, h2, e3, h3, e4, h4, eN]
 rw [List.drop_zero] at e
 rw [e]
 show _ = vActC _
 unfold vActC
 simp

set_option maxRecDepth 100000 in
set_option maxHeartbeats 1000000 in
theorem vdo_calls {w0 w : World} {l : List HProp} (pb pt pw pv pm pr pq : Nat) (ao : Option Addr) (c : Nat) (xs : List Val) (n1 n2 n3 n4 n5 n6 n7 n8 n9 n10 n11 : Int) (gg : Root) (t : TreeS) (tb : TabS) (a : VAct) (hs : Sat w0 w ((Blk pb (.cells #[.slice ao xs.length c, .int .i64 n1, .int .i64 n2, .int .i64 n3, .int .i64 n4, .int .i64 n5, .int .i64 n6, .int .i64 n7, .int .i64 n8, .int .i64 n9, .int .i64 n10, .int .i64 n11, .pointer (some ⟨pt, 0, none⟩), .pointer (some ⟨pw, 0, none⟩), .pointer (some ⟨pv, 0, none⟩)] 72 (0, 0))) :: (TreeObj pt t) :: (WObj pw pt t.nodes (ownE xs (effT tb) t.nodes)) :: (TabObj pv tb) :: (Blk pm (.cells #[.slice ao xs.length c, .int .i64 n1, .int .i64 n2, .int .i64 n3, .int .i64 n4, .int .i64 n5, .int .i64 n6, .int .i64 n7, .int .i64 n8, .int .i64 n9, .int .i64 n10, .int .i64 n11, .pointer (some ⟨pr, 0, none⟩), .pointer (some ⟨pq, 0, none⟩)] 60 (0, 0))) :: (RTreeObj pr t) :: (RTabObj pq tb) :: l)) (hn : tb.latest.length = xs.length) (hsk : StkOK xs) (hxl : xs.length ≤ 64) (hk : ∀ y ∈ xs, y.key.length ≤ 32) (hr : Rds w0 l encVal ao xs) (hs0 : a.slot ≤ 9223372036854775807) (hG : (shaM ([116, 111, 108, 108, 101, 114] ++ bytesC ⟨⟨ao, xs.length, c⟩, n1, n2, n3, n4, n5, n6, n7, n8, n9, n10, n11⟩ xs)) = gg) :
  Calls Tryz.prog 16 #[.pointer (some ⟨pb, 0, none⟩), .pointer (some ⟨pm, 0, none⟩), .agg (vActC a).toArray] w (Ret w0 fun v l' => ∃ qt qw qr, v = .bool true ∧ l' = Blk pb (.cells #[.slice ao xs.length c, .int .i64 n1, .int .i64 n2, .int .i64 n3, .int .i64 n4, .int .i64 n5, .int .i64 n6, .int .i64 n7, .int .i64 n8, .int .i64 n9, .int .i64 n10, .int .i64 n11, .pointer (some ⟨qt, 0, none⟩), .pointer (some ⟨qw, 0, none⟩), .pointer (some ⟨pv, 0, none⟩)] 72 (0, 0)) :: TreeObj qt (stepB gg ⟨t, tb⟩ a).t :: WObj qw qt (stepB gg ⟨t, tb⟩ a).t.nodes (ownE xs (effT (stepB gg ⟨t, tb⟩ a).tb) (stepB gg ⟨t, tb⟩ a).t.nodes) :: TabObj pv (stepB gg ⟨t, tb⟩ a).tb :: Blk pm (.cells #[.slice ao xs.length c, .int .i64 n1, .int .i64 n2, .int .i64 n3, .int .i64 n4, .int .i64 n5, .int .i64 n6, .int .i64 n7, .int .i64 n8, .int .i64 n9, .int .i64 n10, .int .i64 n11, .pointer (some ⟨qr, 0, none⟩), .pointer (some ⟨pq, 0, none⟩)] 60 (0, 0)) :: RTreeObj qr (stepB gg ⟨t, tb⟩ a).t :: RTabObj pq (stepB gg ⟨t, tb⟩ a).tb :: l) := by
 subst hG
 refine calls_enter Tryz.func16 rfl rfl rfl hs ?_
 refine Zw ?_; intro bx1
 refine Z9 ?_
 refine Z7 ?_
 refine cd_drawe (M := []) mx [6, 7, 8] ?_
 refine Z3b ?_
 refine Z6b ?_
 refine e_q 2 rfl (wn_none rfl) (op_field fld_60_0 rfl) ?_
 refine e_q 3 rfl (wn_none rfl) (op_lda 5 ag_24 rfl rfl (by rfl) (by simp)) ?_
 refine e_q 4 rfl (wn_none rfl) (op_field fld_49_1 rfl) ?_
 refine e_q 5 rfl (wn_none rfl) (op_ld 0 sc_3 rfl rfl (vActC_a1 _)) ?_
 refine et_2 (i1 := 6) (i2 := 7) (by kernel_rfl) ?_ ?_
 ·
  refine ei_i rfl rfl (wn_none rfl) (os_call cb_41 rfl (fun w s => bname_calls _ _ _ _ _ _ _ _ _ _ _ _ _ _ _  s ((((((((hr.cons _).cons _).cons _).cons _).cons _).cons _).cons _).cons _) (by first | assumption | omega) (by assumption))) rfl ?_; rintro _ _ ⟨rfl, rfl⟩; refine ⟨[], rfl, ?_⟩
  refine Z1b ?_
  refine ei_i rfl rfl (wn_none rfl) (os_alloc (cs := (rootC Root.zero).toArray) zB_32 (by kernel_rfl)) rfl ?_; rintro _ _ ⟨bx2, rfl, rfl⟩; refine ⟨[_], rfl, ?_⟩
  refine Zo ?_
  refine ei_iN rfl rfl (wn_none rfl) (os_storera _ ag_32 rfl rfl (Free.zero _)) ?_; rintro _ _ ⟨rfl, rfl⟩; refine ⟨[_], rfl, ?_⟩
  refine Zy ?_
  refine Zv ?_
  refine oq (op_field fld_49_0 rfl) ?_
  refine oq (op_ld 1 sc_3 rfl rfl (vActC_a0 _)) ?_
  refine Z3o ?_
  refine Z1 ?_
  refine Z4x ?_
  refine Z9 ?_
  refine cd_cond rfl (fun hb1 => ?_) (fun hb1 => ?_)
  ·have hp1 := hb1
   (try simp only [bn] at hp1)
   have hk0 : a.kind = 0 := by omega
   refine cd_pull7 ?_
   refine cd_pull3 ?_
   refine Z6p ?_
   refine Z65 ?_
   refine cd_drawe (M := [_, _, _, _, _]) mx [8, 11, 23, 26] ?_
   refine Z3b ?_
   refine Zc5 ?_
   refine Z92 ?_
   refine e_q 3 rfl (wn_none rfl) (op_nilck rfl) ?_
   refine e_q 4 rfl (wn_none rfl) (op_field fld_60_0 rfl) ?_
   refine e_q 5 rfl (wn_none rfl) (op_lda 2 ag_24 rfl rfl (by rfl) (by simp)) ?_
   refine e_q 6 rfl (wn_none rfl) (op_field fld_49_2 rfl) ?_
   refine e_q 7 rfl (wn_none rfl) (op_ld 1 sc_3 rfl rfl (vActC_a2 _)) ?_
   refine e_q 9 rfl (wn_none rfl) (op_field fld_49_3 rfl) ?_
   refine e_q 10 rfl (wn_none rfl) (op_ld 1 sc_3 rfl rfl (vActC_a3 _)) ?_
   refine e_q 12 rfl (wn_none rfl) (op_move (v := .pointer _) rfl) ?_
   refine e_q 13 rfl (wn_none rfl) (op_nilck rfl) ?_
   refine e_q 14 rfl (wn_none rfl) (op_field fld_60_1 rfl) ?_
   refine e_q 15 rfl (wn_none rfl) (op_ld 2 sc_57 rfl rfl rfl) ?_
   refine Zf9 ?_
   refine e_q 18 rfl (wn_none rfl) (op_nilck rfl) ?_
   refine e_q 19 rfl (wn_none rfl) (op_field fld_60_0 rfl) ?_
   refine e_q 20 rfl (wn_none rfl) (op_lda 2 ag_24 rfl rfl (by rfl) (by simp)) ?_
   refine e_q 21 rfl (wn_none rfl) (op_field fld_49_2 rfl) ?_
   refine e_q 22 rfl (wn_none rfl) (op_ld 1 sc_3 rfl rfl (vActC_a2 _)) ?_
   refine e_q 24 rfl (wn_none rfl) (op_field fld_49_3 rfl) ?_
   refine e_q 25 rfl (wn_none rfl) (op_ld 1 sc_3 rfl rfl (vActC_a3 _)) ?_
   refine Zo ?_
   refine Zbj ?_
   refine Z2n ?_
   refine Zdt ?_
   refine et_1 (i := 23) (by kernel_rfl) ?_
   refine Zbj ?_
   refine et_1 (i := 26) (by kernel_rfl) ?_
   refine Zdu ?_
   refine e_q 27 rfl (wn_none rfl) (op_eq rfl rfl) ?_
   refine e_q 28 rfl (wn_none rfl) (op_assign (v := .bool _) rfl) ?_
   refine Z1v ?_
   refine Z2h ?_
   rw [stepB_0 (g := (shaM ([116, 111, 108, 108, 101, 114] ++ bytesC ⟨⟨ao, xs.length, c⟩, n1, n2, n3, n4, n5, n6, n7, n8, n9, n10, n11⟩ xs))) (b := ⟨t, tb⟩) hk0]
   exact Zdv
  have hp1 := hb1
  (try simp only [bn] at hp1)
  have hk0 : a.kind ≠ 0 := by omega
  refine Z1 ?_
  refine Z4x ?_
  refine Z9 ?_
  refine cd_cond rfl (fun hb2 => ?_) (fun hb2 => ?_)
  ·have hp2 := hb2
   (try simp only [bn] at hp2)
   have hk1 : a.kind = 1 := by omega
   refine Z1 ?_
   refine oq (op_field fld_49_4 rfl) ?_
   refine oq (op_ld 1 sc_3 rfl rfl (vActC_a4 _)) ?_
   refine Zbt ?_
   refine Z20 ?_
   refine Zdw ?_
   refine Zan ?_; intro bx3
   refine Z7k ?_
   refine Z0 ?_
   refine cd_pull7 ?_
   refine cd_pull8 ?_
   refine cd_pull9 ?_
   refine Z77 ?_
   refine cd_pull8 ?_
   refine cd_pull9 ?_
   refine Z7 ?_
   refine cd_draw (M := [_, _, _, _, _, _, _]) mx [2, 5] (by kernel_rfl) ?_
   refine Zi ?_
   refine Zbk ?_
   refine Zdx ?_
   refine Zi ?_
   refine Zbk ?_
   refine Zdy ?_
   refine Z8p ?_
   refine Z2r ?_
   refine rg_nil_then7 ?_
   refine cd_ret ?_
   refine Z2h ?_
   rw [stepB_1 (g := (shaM ([116, 111, 108, 108, 101, 114] ++ bytesC ⟨⟨ao, xs.length, c⟩, n1, n2, n3, n4, n5, n6, n7, n8, n9, n10, n11⟩ xs))) (b := ⟨t, tb⟩) hk1]
   exact Zdz
  have hp2 := hb2
  (try simp only [bn] at hp2)
  have hk1 : a.kind ≠ 1 := by omega
  refine Z1 ?_
  refine Z4x ?_
  refine Z9 ?_
  refine cd_cond rfl (fun hb3 => ?_) (fun hb3 => ?_)
  ·have hp3 := hb3
   (try simp only [bn] at hp3)
   have hk2 : a.kind = 2 := by omega
   rcases hix : idxOf t.nodes (bName (shaM ([116, 111, 108, 108, 101, 114] ++ bytesC ⟨⟨ao, xs.length, c⟩, n1, n2, n3, n4, n5, n6, n7, n8, n9, n10, n11⟩ xs)) a.root) with _ | x0
   ·
    refine Z77 ?_
    refine Z6p ?_
    refine Z65 ?_
    refine Zbl ?_
    refine Zi ?_
    refine Z1a ?_
    refine Ze0 ?_
    refine Zi ?_
    refine Z1a ?_
    refine Ze1 ?_
    refine Z8p ?_
    refine Z2r ?_
    refine rg_nil_then5 ?_
    refine cd_ret ?_
    refine Z2h ?_
    rw [stepB_2 (g := (shaM ([116, 111, 108, 108, 101, 114] ++ bytesC ⟨⟨ao, xs.length, c⟩, n1, n2, n3, n4, n5, n6, n7, n8, n9, n10, n11⟩ xs))) (b := ⟨t, tb⟩) hk2, keepT_no hix]
    exact Zbm
   refine Z77 ?_
   refine Z6p ?_
   refine Z65 ?_
   refine Zbl ?_
   refine Zi ?_
   refine Z1a ?_
   refine Ze2 ?_; intro qt10 qw10
   refine Zi ?_
   refine Z1a ?_
   refine Ze3 ?_; intro qr11
   refine Z8p ?_
   refine Z2r ?_
   refine rg_nil_then5 ?_
   refine cd_ret ?_
   refine Z2h ?_
   rw [stepB_2 (g := (shaM ([116, 111, 108, 108, 101, 114] ++ bytesC ⟨⟨ao, xs.length, c⟩, n1, n2, n3, n4, n5, n6, n7, n8, n9, n10, n11⟩ xs))) (b := ⟨t, tb⟩) hk2, keepT_yes hix]
   exact Zbm
  have hp3 := hb3
  (try simp only [bn] at hp3)
  have hk2 : a.kind ≠ 2 := by omega
  refine cd_skip ?_
  refine Z8v ?_
  refine Zc ?_
  refine Zbt ?_
  refine ol_pull5 ?_
  refine Zu ?_
  refine oi (os_call cb_5 rfl (fun w s => BForget_calls _ _ _ _ _ _ _ _ _ _ _ _ _ _ _ _ _ _ _ _  s (by omega))) ?_; rintro _ _ ⟨rfl, rfl⟩
  refine Z0 ?_
  refine cd_pull8 ?_
  refine Z7 ?_
  refine cd_draw (M := [_]) mx [6] (by kernel_rfl) ?_
  refine Zby ?_
  refine rg_q (wn_none rfl) (op_ld 6 sc_58 rfl rfl rfl) rfl rfl ?_
  refine rg_q (wn_none rfl) (op_field fld_49_3 rfl) rfl rfl ?_
  refine rg_q (wn_none rfl) (op_ld 3 sc_3 rfl rfl (vActC_a3 _)) rfl rfl ?_
  refine Ze4 ?_
  refine rg_nil_then1 ?_
  refine Z1 ?_
  refine Zh ?_
  rw [stepB_3 (g := (shaM ([116, 111, 108, 108, 101, 114] ++ bytesC ⟨⟨ao, xs.length, c⟩, n1, n2, n3, n4, n5, n6, n7, n8, n9, n10, n11⟩ xs))) (b := ⟨t, tb⟩) hk0 hk1 hk2, forget_eff]
  exact Ze5
 refine ei_i rfl rfl (wn_none rfl) (os_alloc (cs := (rootC Root.zero).toArray) zB_32 (by kernel_rfl)) rfl ?_; rintro _ _ ⟨bx4, rfl, rfl⟩; refine ⟨[_], rfl, ?_⟩
 refine Z1r ?_
 refine ei_i rfl rfl (wn_none rfl) (os_call cb_41 rfl (fun w s => bname_calls _ _ _ _ _ _ _ _ _ _ _ _ _ _ _  s (((((((((hr.cons _).cons _).cons _).cons _).cons _).cons _).cons _).cons _).cons _) (by first | assumption | omega) (by assumption))) rfl ?_; rintro _ _ ⟨rfl, rfl⟩; refine ⟨[_], rfl, ?_⟩
 refine Zo ?_
 refine ei_iN rfl rfl (wn_none rfl) (os_storera _ ag_32 rfl rfl (Free.zero _)) ?_; rintro _ _ ⟨rfl, rfl⟩; refine ⟨[_], rfl, ?_⟩
 refine Zy ?_
 refine Zv ?_
 refine oq (op_field fld_49_0 rfl) ?_
 refine oq (op_ld 1 sc_3 rfl rfl (vActC_a0 _)) ?_
 refine Z3o ?_
 refine Z1 ?_
 refine Z4x ?_
 refine Z9 ?_
 refine cd_cond rfl (fun hb4 => ?_) (fun hb4 => ?_)
 ·have hp4 := hb4
  (try simp only [bn] at hp4)
  have hk0 : a.kind = 0 := by omega
  refine cd_pull7 ?_
  refine cd_pull3 ?_
  refine Z6p ?_
  refine Z65 ?_
  refine cd_drawe (M := [_, _, _, _, _]) mx [8, 11, 23, 26] ?_
  refine Z3b ?_
  refine Zc5 ?_
  refine Z92 ?_
  refine e_q 3 rfl (wn_none rfl) (op_nilck rfl) ?_
  refine e_q 4 rfl (wn_none rfl) (op_field fld_60_0 rfl) ?_
  refine e_q 5 rfl (wn_none rfl) (op_lda 2 ag_24 rfl rfl (by rfl) (by simp)) ?_
  refine e_q 6 rfl (wn_none rfl) (op_field fld_49_2 rfl) ?_
  refine e_q 7 rfl (wn_none rfl) (op_ld 1 sc_3 rfl rfl (vActC_a2 _)) ?_
  refine e_q 9 rfl (wn_none rfl) (op_field fld_49_3 rfl) ?_
  refine e_q 10 rfl (wn_none rfl) (op_ld 1 sc_3 rfl rfl (vActC_a3 _)) ?_
  refine e_q 12 rfl (wn_none rfl) (op_move (v := .pointer _) rfl) ?_
  refine e_q 13 rfl (wn_none rfl) (op_nilck rfl) ?_
  refine e_q 14 rfl (wn_none rfl) (op_field fld_60_1 rfl) ?_
  refine e_q 15 rfl (wn_none rfl) (op_ld 2 sc_57 rfl rfl rfl) ?_
  refine Zf9 ?_
  refine e_q 18 rfl (wn_none rfl) (op_nilck rfl) ?_
  refine e_q 19 rfl (wn_none rfl) (op_field fld_60_0 rfl) ?_
  refine e_q 20 rfl (wn_none rfl) (op_lda 2 ag_24 rfl rfl (by rfl) (by simp)) ?_
  refine e_q 21 rfl (wn_none rfl) (op_field fld_49_2 rfl) ?_
  refine e_q 22 rfl (wn_none rfl) (op_ld 1 sc_3 rfl rfl (vActC_a2 _)) ?_
  refine e_q 24 rfl (wn_none rfl) (op_field fld_49_3 rfl) ?_
  refine e_q 25 rfl (wn_none rfl) (op_ld 1 sc_3 rfl rfl (vActC_a3 _)) ?_
  refine Zo ?_
  refine Zbj ?_
  refine Z2n ?_
  refine Zdt ?_
  refine et_1 (i := 23) (by kernel_rfl) ?_
  refine Zbj ?_
  refine et_1 (i := 26) (by kernel_rfl) ?_
  refine Zdu ?_
  refine e_q 27 rfl (wn_none rfl) (op_eq rfl rfl) ?_
  refine e_q 28 rfl (wn_none rfl) (op_assign (v := .bool _) rfl) ?_
  refine Z1v ?_
  refine Z2h ?_
  rw [stepB_0 (g := (shaM ([116, 111, 108, 108, 101, 114] ++ bytesC ⟨⟨ao, xs.length, c⟩, n1, n2, n3, n4, n5, n6, n7, n8, n9, n10, n11⟩ xs))) (b := ⟨t, tb⟩) hk0]
  exact Zdv
 have hp4 := hb4
 (try simp only [bn] at hp4)
 have hk0 : a.kind ≠ 0 := by omega
 refine Z1 ?_
 refine Z4x ?_
 refine Z9 ?_
 refine cd_cond rfl (fun hb5 => ?_) (fun hb5 => ?_)
 ·have hp5 := hb5
  (try simp only [bn] at hp5)
  have hk1 : a.kind = 1 := by omega
  refine Z1 ?_
  refine oq (op_field fld_49_4 rfl) ?_
  refine oq (op_ld 1 sc_3 rfl rfl (vActC_a4 _)) ?_
  refine Zbt ?_
  refine Z20 ?_
  refine Zdw ?_
  refine Zan ?_; intro bx5
  refine Z7k ?_
  refine Z0 ?_
  refine cd_pull7 ?_
  refine cd_pull8 ?_
  refine cd_pull9 ?_
  refine Z77 ?_
  refine cd_pull8 ?_
  refine cd_pull9 ?_
  refine Z7 ?_
  refine cd_draw (M := [_, _, _, _, _, _, _]) mx [2, 5] (by kernel_rfl) ?_
  refine Zi ?_
  refine Zbk ?_
  refine Zdx ?_
  refine Zi ?_
  refine Zbk ?_
  refine Zdy ?_
  refine Z8p ?_
  refine Z2r ?_
  refine rg_nil_then7 ?_
  refine cd_ret ?_
  refine Z2h ?_
  rw [stepB_1 (g := (shaM ([116, 111, 108, 108, 101, 114] ++ bytesC ⟨⟨ao, xs.length, c⟩, n1, n2, n3, n4, n5, n6, n7, n8, n9, n10, n11⟩ xs))) (b := ⟨t, tb⟩) hk1]
  exact Zdz
 have hp5 := hb5
 (try simp only [bn] at hp5)
 have hk1 : a.kind ≠ 1 := by omega
 refine Z1 ?_
 refine Z4x ?_
 refine Z9 ?_
 refine cd_cond rfl (fun hb6 => ?_) (fun hb6 => ?_)
 ·have hp6 := hb6
  (try simp only [bn] at hp6)
  have hk2 : a.kind = 2 := by omega
  rcases hix : idxOf t.nodes (bName (shaM ([116, 111, 108, 108, 101, 114] ++ bytesC ⟨⟨ao, xs.length, c⟩, n1, n2, n3, n4, n5, n6, n7, n8, n9, n10, n11⟩ xs)) a.root) with _ | x0
  ·
   refine Z77 ?_
   refine Z6p ?_
   refine Z65 ?_
   refine Zbl ?_
   refine Zi ?_
   refine Z1a ?_
   refine Ze0 ?_
   refine Zi ?_
   refine Z1a ?_
   refine Ze1 ?_
   refine Z8p ?_
   refine Z2r ?_
   refine rg_nil_then5 ?_
   refine cd_ret ?_
   refine Z2h ?_
   rw [stepB_2 (g := (shaM ([116, 111, 108, 108, 101, 114] ++ bytesC ⟨⟨ao, xs.length, c⟩, n1, n2, n3, n4, n5, n6, n7, n8, n9, n10, n11⟩ xs))) (b := ⟨t, tb⟩) hk2, keepT_no hix]
   exact Zbm
  refine Z77 ?_
  refine Z6p ?_
  refine Z65 ?_
  refine Zbl ?_
  refine Zi ?_
  refine Z1a ?_
  refine Ze2 ?_; intro qt23 qw23
  refine Zi ?_
  refine Z1a ?_
  refine Ze3 ?_; intro qr24
  refine Z8p ?_
  refine Z2r ?_
  refine rg_nil_then5 ?_
  refine cd_ret ?_
  refine Z2h ?_
  rw [stepB_2 (g := (shaM ([116, 111, 108, 108, 101, 114] ++ bytesC ⟨⟨ao, xs.length, c⟩, n1, n2, n3, n4, n5, n6, n7, n8, n9, n10, n11⟩ xs))) (b := ⟨t, tb⟩) hk2, keepT_yes hix]
  exact Zbm
 have hp6 := hb6
 (try simp only [bn] at hp6)
 have hk2 : a.kind ≠ 2 := by omega
 refine cd_skip ?_
 refine Z8v ?_
 refine Zc ?_
 refine Zbt ?_
 refine ol_pull5 ?_
 refine Zu ?_
 refine oi (os_call cb_5 rfl (fun w s => BForget_calls _ _ _ _ _ _ _ _ _ _ _ _ _ _ _ _ _ _ _ _  s (by omega))) ?_; rintro _ _ ⟨rfl, rfl⟩
 refine Z0 ?_
 refine cd_pull8 ?_
 refine Z7 ?_
 refine cd_draw (M := [_]) mx [6] (by kernel_rfl) ?_
 refine Zby ?_
 refine rg_q (wn_none rfl) (op_ld 6 sc_58 rfl rfl rfl) rfl rfl ?_
 refine rg_q (wn_none rfl) (op_field fld_49_3 rfl) rfl rfl ?_
 refine rg_q (wn_none rfl) (op_ld 3 sc_3 rfl rfl (vActC_a3 _)) rfl rfl ?_
 refine Ze4 ?_
 refine rg_nil_then1 ?_
 refine Z1 ?_
 refine Zh ?_
 rw [stepB_3 (g := (shaM ([116, 111, 108, 108, 101, 114] ++ bytesC ⟨⟨ao, xs.length, c⟩, n1, n2, n3, n4, n5, n6, n7, n8, n9, n10, n11⟩ xs))) (b := ⟨t, tb⟩) hk0 hk1 hk2, forget_eff]
 exact Ze5

set_option maxRecDepth 100000 in
set_option maxHeartbeats 1000000 in
theorem vbegun_calls {w0 w : World} {l : List HProp} (ao : Option Addr) (c : Nat) (xs : List Val) (n1 n2 n3 n4 n5 n6 n7 n8 n9 n10 n11 : Int) (lo : Option Addr) (lc : Nat) (acts : List VAct) (most : Int) (hs : Sat w0 w (l)) (hr : Rds w0 l encVal ao xs) (hq : ∀ y ∈ xs, I64 y.stake ∧ y.key.length ≤ maxLen) (hm : most ≤ 1000) :
  Calls Tryz.prog 13 #[.agg (cfgC ⟨⟨ao, xs.length, c⟩, n1, n2, n3, n4, n5, n6, n7, n8, n9, n10, n11⟩).toArray, .slice lo acts.length lc, .int .i64 most] w (Ret w0 fun v l' => ((greatC xs = true ∨ most < (acts.length : Int) ∨ goodC ⟨⟨ao, xs.length, c⟩, n1, n2, n3, n4, n5, n6, n7, n8, n9, n10, n11⟩ xs = false) ∧ v = .tuple #[.pointer none, .pointer none, .bool false] ∧ l' = l) ∨ (goodC ⟨⟨ao, xs.length, c⟩, n1, n2, n3, n4, n5, n6, n7, n8, n9, n10, n11⟩ xs = true ∧ (acts.length : Int) ≤ most ∧ ∃ pb pt pw pv pm pr pq, v = .tuple #[.pointer (some ⟨pb, 0, none⟩), .pointer (some ⟨pm, 0, none⟩), .bool true] ∧ l' = Blk pb (.cells #[.slice ao xs.length c, .int .i64 n1, .int .i64 n2, .int .i64 n3, .int .i64 n4, .int .i64 n5, .int .i64 n6, .int .i64 n7, .int .i64 n8, .int .i64 n9, .int .i64 n10, .int .i64 n11, .pointer (some ⟨pt, 0, none⟩), .pointer (some ⟨pw, 0, none⟩), .pointer (some ⟨pv, 0, none⟩)] 72 (0, 0)) :: TreeObj pt (newB (shaM ([116, 111, 108, 108, 101, 114] ++ bytesC ⟨⟨ao, xs.length, c⟩, n1, n2, n3, n4, n5, n6, n7, n8, n9, n10, n11⟩ xs)) n3 xs.length n1).t :: WObj pw pt (newB (shaM ([116, 111, 108, 108, 101, 114] ++ bytesC ⟨⟨ao, xs.length, c⟩, n1, n2, n3, n4, n5, n6, n7, n8, n9, n10, n11⟩ xs)) n3 xs.length n1).t.nodes (ownE xs (effT (newB (shaM ([116, 111, 108, 108, 101, 114] ++ bytesC ⟨⟨ao, xs.length, c⟩, n1, n2, n3, n4, n5, n6, n7, n8, n9, n10, n11⟩ xs)) n3 xs.length n1).tb) (newB (shaM ([116, 111, 108, 108, 101, 114] ++ bytesC ⟨⟨ao, xs.length, c⟩, n1, n2, n3, n4, n5, n6, n7, n8, n9, n10, n11⟩ xs)) n3 xs.length n1).t.nodes) :: TabObj pv (newB (shaM ([116, 111, 108, 108, 101, 114] ++ bytesC ⟨⟨ao, xs.length, c⟩, n1, n2, n3, n4, n5, n6, n7, n8, n9, n10, n11⟩ xs)) n3 xs.length n1).tb :: Blk pm (.cells #[.slice ao xs.length c, .int .i64 n1, .int .i64 n2, .int .i64 n3, .int .i64 n4, .int .i64 n5, .int .i64 n6, .int .i64 n7, .int .i64 n8, .int .i64 n9, .int .i64 n10, .int .i64 n11, .pointer (some ⟨pr, 0, none⟩), .pointer (some ⟨pq, 0, none⟩)] 60 (0, 0)) :: RTreeObj pr (newB (shaM ([116, 111, 108, 108, 101, 114] ++ bytesC ⟨⟨ao, xs.length, c⟩, n1, n2, n3, n4, n5, n6, n7, n8, n9, n10, n11⟩ xs)) n3 xs.length n1).t :: RTabObj pq (newB (shaM ([116, 111, 108, 108, 101, 114] ++ bytesC ⟨⟨ao, xs.length, c⟩, n1, n2, n3, n4, n5, n6, n7, n8, n9, n10, n11⟩ xs)) n3 xs.length n1).tb :: l)) := by
 refine calls_enter Tryz.func13 rfl rfl rfl hs ?_
 refine Z46 ?_; intro bx1
 refine Zf ?_
 refine Z3h ?_
 refine Z4g ?_
 refine oi (os_call cb_14 rfl (fun w s => Great_calls _ _ _ _ _ _ _ _ _ _ _ _ _ _  s (hr.cons _))) ?_; rintro _ _ ⟨rfl, rfl⟩
 refine Z5 ?_
 refine ol_split 14 rfl (fun hb1 => ?_) (fun hb1 => ?_)
 ·have hp1 := hb1
  (try simp only [bn] at hp1)
  have hb1 : greatC xs = true := by simpa using hb1
  refine Z4j ?_
  refine Z2d ?_
  refine Z3f ?_
  refine Zf ?_
  refine Zm ?_
  exact px_ret3 rfl (v1 := .pointer _) (v2 := .pointer _) (v3 := .bool _) rfl rfl rfl (fun _ s => (s.del 0)) (.inl ⟨.inl hb1, rfl, rfl⟩)
 have hp1 := hb1
 (try simp only [bn] at hp1)
 have hgr : greatC xs = false := by simpa using hb1
 have hxl : xs.length ≤ 100 := by unfold greatC at hgr; rw [Bool.or_eq_false_iff] at hgr; have := of_decide_eq_false hgr.1; omega
 refine ol_q (wn_some rfl rfl rfl hb1 rfl) (op_move (v := .slice _ _ _) rfl) rfl ?_
 refine ol_q (wn_some rfl rfl rfl hb1 rfl) (op_len_slice Tryz.underlying25 rfl) rfl ?_
 refine Z30 ?_
 refine Z8w ?_
 refine Z21 ?_
 refine Z0 ?_
 refine cd_cond rfl (fun hb2 => ?_) (fun hb2 => ?_)
 ·have hp2 := hb2
  (try simp only [bn] at hp2)
  refine Z2k ?_
  refine Zf ?_
  refine Zm ?_
  exact px_ret3 rfl (v1 := .pointer _) (v2 := .pointer _) (v3 := .bool _) rfl rfl rfl (fun _ s => (s.del 0)) (.inl ⟨.inr (.inl (by omega)), rfl, rfl⟩)
 have hp2 := hb2
 (try simp only [bn] at hp2)
 refine Za ?_
 rcases hgc : goodC ⟨⟨ao, xs.length, c⟩, n1, n2, n3, n4, n5, n6, n7, n8, n9, n10, n11⟩ xs
 ·
  refine Z1 ?_
  refine Z4g ?_
  refine oi (os_call cb_22 rfl (fun w s => BNewN_calls _ _ _ _ _ _ _ _ _ _ _ _ _ _  s (by assumption) (hr.cons _) (by omega))) ?_; rintro _ _ ⟨rfl, rfl⟩
  refine Zf ?_
  refine Z16 ?_
  refine Z4g ?_
  refine oi (os_call cb_38 rfl (fun w s => RBNewN_calls _ _ _ _ _ _ _ _ _ _ _ _ _ _  s (by assumption) (hr.cons _) (by omega) (by assumption))) ?_; rintro _ _ ⟨rfl, rfl⟩
  refine Z3a ?_
  refine Z5x ?_
  refine Z5e ?_
  refine Zf ?_
  refine Z9 ?_
  refine Z42 ?_
  refine Z5 ?_
  refine Z62 ?_
  refine Z7a ?_
  refine Zf ?_
  refine Zf ?_
  refine Zh ?_
  exact px_ret3 rfl (v1 := .pointer _) (v2 := .pointer _) (v3 := .bool _) rfl rfl rfl (fun _ s => (s.del 0)) (.inl ⟨.inr (.inr rfl), rfl, rfl⟩)
 refine Z1 ?_
 refine Z4g ?_
 refine oi (os_call cb_22 rfl (fun w s => BNewS_calls _ _ _ _ _ _ _ _ _ _ _ _ _ _  s (by assumption) (hr.cons _))) ?_; rintro _ _ ⟨pb4, pt4, pw4, pv4, rfl, rfl⟩
 refine Zf ?_
 refine Z16 ?_
 refine oq (op_lda (L := cfgC _) 4 ag_24 rfl rfl (cfgC_ta _) (by simp [cfgC_len])) ?_
 refine oi (os_call cb_38 rfl (fun w s => RBNewS_calls _ _ _ _ _ _ _ _ _ _ _ _ _ _  s (by assumption) (((((hr.cons _).cons _).cons _).cons _).cons _) (by assumption))) ?_; rintro _ _ ⟨pm5, pr5, pq5, rfl, rfl⟩
 refine Z3a ?_
 refine Z5x ?_
 refine Z5e ?_
 refine Zf ?_
 refine Z9 ?_
 refine Z42 ?_
 refine Z5 ?_
 refine Z5 ?_
 refine ol_q (wn_some rfl rfl rfl rfl rfl) (op_move (v := .pointer _) rfl) rfl ?_
 refine ol_q (wn_some rfl rfl rfl rfl rfl) (op_nenil Tryz.underlying27 rfl rfl) rfl ?_
 refine Z66 ?_
 refine Zf ?_
 refine Zf ?_
 refine Zh ?_
 exact px_ret3 rfl (v1 := .pointer _) (v2 := .pointer _) (v3 := .bool true) (l' := Blk pb4 (.cells #[.slice ao xs.length c, .int .i64 n1, .int .i64 n2, .int .i64 n3, .int .i64 n4, .int .i64 n5, .int .i64 n6, .int .i64 n7, .int .i64 n8, .int .i64 n9, .int .i64 n10, .int .i64 n11, .pointer (some ⟨_, 0, none⟩), .pointer (some ⟨_, 0, none⟩), .pointer (some ⟨_, 0, none⟩)] 72 (0, 0)) :: TreeObj _ (newB (shaM ([116, 111, 108, 108, 101, 114] ++ bytesC ⟨⟨ao, xs.length, c⟩, n1, n2, n3, n4, n5, n6, n7, n8, n9, n10, n11⟩ xs)) n3 xs.length n1).t :: WObj _ _ (newB (shaM ([116, 111, 108, 108, 101, 114] ++ bytesC ⟨⟨ao, xs.length, c⟩, n1, n2, n3, n4, n5, n6, n7, n8, n9, n10, n11⟩ xs)) n3 xs.length n1).t.nodes (ownE xs (effT (newB (shaM ([116, 111, 108, 108, 101, 114] ++ bytesC ⟨⟨ao, xs.length, c⟩, n1, n2, n3, n4, n5, n6, n7, n8, n9, n10, n11⟩ xs)) n3 xs.length n1).tb) (newB (shaM ([116, 111, 108, 108, 101, 114] ++ bytesC ⟨⟨ao, xs.length, c⟩, n1, n2, n3, n4, n5, n6, n7, n8, n9, n10, n11⟩ xs)) n3 xs.length n1).t.nodes) :: TabObj _ (newB (shaM ([116, 111, 108, 108, 101, 114] ++ bytesC ⟨⟨ao, xs.length, c⟩, n1, n2, n3, n4, n5, n6, n7, n8, n9, n10, n11⟩ xs)) n3 xs.length n1).tb :: Blk pm5 (.cells #[.slice ao xs.length c, .int .i64 n1, .int .i64 n2, .int .i64 n3, .int .i64 n4, .int .i64 n5, .int .i64 n6, .int .i64 n7, .int .i64 n8, .int .i64 n9, .int .i64 n10, .int .i64 n11, .pointer (some ⟨_, 0, none⟩), .pointer (some ⟨_, 0, none⟩)] 60 (0, 0)) :: RTreeObj _ (newB (shaM ([116, 111, 108, 108, 101, 114] ++ bytesC ⟨⟨ao, xs.length, c⟩, n1, n2, n3, n4, n5, n6, n7, n8, n9, n10, n11⟩ xs)) n3 xs.length n1).t :: RTabObj _ (newB (shaM ([116, 111, 108, 108, 101, 114] ++ bytesC ⟨⟨ao, xs.length, c⟩, n1, n2, n3, n4, n5, n6, n7, n8, n9, n10, n11⟩ xs)) n3 xs.length n1).tb :: l) rfl rfl rfl (fun _ s => ((((((((s.del 7).pull 2).pull 2).pull 2).pull 6).pull 6).pull 6).pull 6)) (.inr ⟨rfl, by omega, _, _, _, _, _, _, _, rfl, rfl⟩)
end Go.SL

set_option linter.unusedVariables false
set_option linter.unusedSimpArgs false
namespace Go.SL
open Go.Proofs

set_option maxRecDepth 100000 in
set_option maxHeartbeats 1000000 in
theorem vAlive_calls {w0 w : World} {l : List HProp}  (hs : Sat w0 w (l))  :
  Calls Tryz.prog 4 #[] w (Ret w0 fun v l' => v = .bool true ∧ l' = l) := by
 refine calls_enter Tryz.func4 rfl rfl rfl hs ?_
 refine Z1 ?_
 refine Z9 ?_
 refine Z1 ?_
 refine oq (op_build (L := valC ⟨5, [107]⟩) (vs := [(0, .int _ _), (1, .string _)]) bB_66 rfl ⟨⟨rfl, by rw [valC_len]; rfl⟩, ⟨rfl, by rw [valC_len]; rfl⟩, trivial⟩ (by simp [fill2, valC, Val.zero, SlV.v, B, Value.cells])) ?_
 refine oi (os_bslice (E := encVal) [_] (ys := alX) sB_22 zv_66 rfl rfl rfl rfl (by decide)) ?_; rintro _ _ ⟨ao1, rfl, rfl⟩
 refine oq (op_build (L := cfgC ⟨⟨ao1, 1, 1⟩, 4, 1, 9, 1, 1, 1, 1, 1, 1, 1, 1⟩) (vs := [(0, (SlV.v ⟨_, _, _⟩)), (1, .int _ _), (2, .int _ _), (3, .int _ _), (4, .int _ _), (5, .int _ _), (6, .int _ _), (7, .int _ _), (8, .int _ _), (9, .int _ _), (10, .int _ _), (11, .int _ _)]) bB_24 rfl ⟨⟨rfl, by rw [cfgC_len]; rfl⟩, ⟨rfl, by rw [cfgC_len]; rfl⟩, ⟨rfl, by rw [cfgC_len]; rfl⟩, ⟨rfl, by rw [cfgC_len]; rfl⟩, ⟨rfl, by rw [cfgC_len]; rfl⟩, ⟨rfl, by rw [cfgC_len]; rfl⟩, ⟨rfl, by rw [cfgC_len]; rfl⟩, ⟨rfl, by rw [cfgC_len]; rfl⟩, ⟨rfl, by rw [cfgC_len]; rfl⟩, ⟨rfl, by rw [cfgC_len]; rfl⟩, ⟨rfl, by rw [cfgC_len]; rfl⟩, ⟨rfl, by rw [cfgC_len]; rfl⟩, trivial⟩ (by simp [fill2, cfgC, Cfg.zero, SlV.v, B, Value.cells])) ?_
 refine oi (os_alloc (cs := (cfgC Cfg.zero).toArray) zB_24 (by kernel_rfl)) ?_; rintro _ _ ⟨bx1, rfl, rfl⟩
 refine oN (os_storew (cfgC _) ag_24 rfl rfl (cfgC_len _) (cfgC_one _) (by simp [cfgC_len]) (Free.zero _)) ?_; rintro _ _ ⟨rfl, rfl⟩
 refine Z0 ?_
 have hgg := alB_g ao1 alX.length 1
 have hsk := goodC_stk hgg
 have hkk : ∀ y ∈ alX, y.key.length ≤ 32 := by decide
 have hh1 : headW (TreeS.new alF 0 9).nodes (ownE alX (effT (TabS.new alX.length 4)) (TreeS.new alF 0 9).nodes) = alF := alB_1
 have hh2 : ((TreeS.new alF 0 9).add (nameR 1) alF 2).1 = 0 := alB_2
 have hh3 : BookS.take ⟨((TreeS.new alF 0 9).add (nameR 1) alF 2).2, (TabS.new alX.length 4)⟩ ⟨0, 1, nameR 1⟩ = (6, (TabS.new alX.length 4)) := alB_3
 have hh4 : (BookS.take ⟨((TreeS.new alF 0 9).add (nameR 1) alF 2).2, (TabS.new alX.length 4)⟩ ⟨0, 2, nameR 1⟩).1 = 0 := alB_4
 have hh5 : ofF ((TreeS.new alF 0 9).add (nameR 1) alF 2).2 (ownE alX (effT (BookS.take ⟨((TreeS.new alF 0 9).add (nameR 1) alF 2).2, (TabS.new alX.length 4)⟩ ⟨0, 2, nameR 1⟩).2) ((TreeS.new alF 0 9).add (nameR 1) alF 2).2.nodes).length (sumN ((TreeS.new alF 0 9).add (nameR 1) alF 2).2.nodes (ownE alX (effT (BookS.take ⟨((TreeS.new alF 0 9).add (nameR 1) alF 2).2, (TabS.new alX.length 4)⟩ ⟨0, 2, nameR 1⟩).2) ((TreeS.new alF 0 9).add (nameR 1) alF 2).2.nodes)) alF = 5 := alB_5
 have hh6 : headW ((TreeS.new alF 0 9).add (nameR 1) alF 2).2.nodes (ownE alX (effT (BookS.take ⟨((TreeS.new alF 0 9).add (nameR 1) alF 2).2, (TabS.new alX.length 4)⟩ ⟨0, 2, nameR 1⟩).2) ((TreeS.new alF 0 9).add (nameR 1) alF 2).2.nodes) = nameR 1 := alB_6
 have hq1 : 0 < (ownE alX (effT (TabS.new alX.length 4)) (TreeS.new alF 0 9).nodes).length := alB_p
 have hq2 : 0 < (ownE alX (effT (BookS.take ⟨((TreeS.new alF 0 9).add (nameR 1) alF 2).2, (TabS.new alX.length 4)⟩ ⟨0, 2, nameR 1⟩).2) ((TreeS.new alF 0 9).add (nameR 1) alF 2).2.nodes).length := alB_q
 have hll2 : (BookS.take ⟨((TreeS.new alF 0 9).add (nameR 1) alF 2).2, (TabS.new alX.length 4)⟩ ⟨0, 1, nameR 1⟩).2.latest.length = alX.length := by rw [hh3]; rfl
 refine Z1 ?_
 refine Z4g ?_
 refine oi (os_call cb_22 rfl (fun w s => BNewS_calls (ao := ao1) (c := 1) (xs := alX) (n1 := 4) (n2 := 1) (n3 := 9) (n4 := 1) (n5 := 1) (n6 := 1) (n7 := 1) (n8 := 1) (n9 := 1) (n10 := 1) (n11 := 1)  s hgg (rds_row 1 rfl rfl))) ?_; rintro _ _ ⟨pb1, pt1, pw1, pv1, rfl, rfl⟩; rw [alB_0]
 refine Zf ?_
 refine Z16 ?_
 refine oq (op_lda (L := cfgC _) 4 ag_24 rfl rfl (cfgC_ta _) (by simp [cfgC_len])) ?_
 refine oi (os_call cb_23 rfl (fun w s => RRoot_calls (ao := ao1) (c := 1) (xs := alX) (n1 := 4) (n2 := 1) (n3 := 9) (n4 := 1) (n5 := 1) (n6 := 1) (n7 := 1) (n8 := 1) (n9 := 1) (n10 := 1) (n11 := 1)  s (rds_row 5 rfl rfl) (by decide) hkk)) ?_; rintro _ _ ⟨rfl, rfl⟩; rw [alB_0]
 refine Z19 ?_; intro bx2
 refine Z2b ?_
 refine Z16 ?_
 refine oi (os_call cb_24 rfl (fun w s => Name_calls (n := 1)  s )) ?_; rintro _ _ ⟨rfl, rfl⟩
 refine Z19 ?_; intro bx3
 refine Z2b ?_
 refine Z0 ?_
 refine cd_pull2 ?_
 refine cd_pull3 ?_
 refine Z6p ?_
 refine Z7 ?_
 refine cd_drawe (M := [_, _, _, _]) mx [1, 8, 15, 22, 28, 33] ?_
 refine Z3b ?_
 refine e_q 2 rfl (wn_none rfl) (op_lda (L := rootC _) 1 ag_32 rfl rfl (rootC_take' _) (by simp [rootC_len])) ?_
 refine Z6i ?_
 refine ei_i rfl rfl (wn_none rfl) (os_back (os_pull1 (os_pull2 (os_pull3 (os_call cb_9 rfl (fun w s => BHead_calls _ _ _ _ _ _ _ _ _ _ _ _ _ _ _ _ _ _ _ _  s (Nat.le_of_eq (ownE_len _ _ _)) hq1))))) (fun _ s => ((((((((s.pull 7).pull 7).pull 7).pull 7).pull 4).pull 5).pull 6).pull 7))) rfl ?_; rintro _ _ ⟨rfl, rfl⟩; rw [hh1]; refine ⟨[_, _, _, _], rfl, ?_⟩
 refine e_q 3 rfl (wn_none rfl) (op_eqroot _ _ rB_32 rfl rfl) ?_
 refine e_q 4 rfl (wn_none rfl) (op_move (v := .bool _) rfl) ?_
 refine et_split 17 rfl (fun hb1 => ?_) (fun hb1 => ?_)
 ·have hp1 := hb1
  (try simp only [bn] at hp1)
  refine e_q 5 rfl (wn_some rfl rfl rfl hb1 rfl) (op_move (v := .pointer _) rfl) ?_
  refine e_q 6 rfl (wn_some rfl rfl rfl hb1 rfl) (op_lda (L := rootC _) 0 ag_32 rfl rfl (rootC_take' _) (by simp [rootC_len])) ?_
  refine e_q 7 rfl (wn_some rfl rfl rfl hb1 rfl) (op_lda (L := rootC _) 1 ag_32 rfl rfl (rootC_take' _) (by simp [rootC_len])) ?_
  refine Zo ?_
  refine ei_i rfl rfl (wn_some rfl rfl rfl hb1 rfl) (os_pull1 (os_pull2 (os_pull3 (os_call cb_6 rfl (fun w s => BAdd_calls (slot := 2) _ _ _ _ _ _ _ _ _ _ _ _ _ _ _ _ _ _ _ _ _ _  s rfl hsk (rds_row 3 rfl rfl)))))) rfl ?_; rintro _ _ ⟨rfl, rfl⟩; rw [hh2]; refine ⟨[_, _, _, _], rfl, ?_⟩
  refine e_q 9 rfl (wn_some rfl rfl rfl hb1 rfl) (op_eq rfl rfl) ?_
  refine e_q 10 rfl (wn_none rfl) (op_pick_t (v := .bool _) rfl hb1 rfl) ?_
  refine Z9q ?_
  refine et_split 24 rfl (fun hb2 => ?_) (fun hb2 => ?_)
  ·have hp2 := hb2
   (try simp only [bn] at hp2)
   refine e_q 12 rfl (wn_some rfl rfl rfl hb2 rfl) (op_move (v := .pointer _) rfl) ?_
   refine e_q 13 rfl (wn_some rfl rfl rfl hb2 rfl) (op_lda (L := rootC _) 0 ag_32 rfl rfl (rootC_take' _) (by simp [rootC_len])) ?_
   refine e_q 14 rfl (wn_some rfl rfl rfl hb2 rfl) (op_build (L := voteC _) (vs := [(1, .int _ _), (2, .agg (rootC _).toArray)]) bB_36 rfl ⟨⟨rfl, by rw [voteC_len]; rfl⟩, ⟨by simp [Value.cells, rootC_len], by rw [voteC_len]; rfl⟩, trivial⟩ ((voteC_b1 _ _ _).trans ((voteC_b2 _ _ _).trans rfl))) ?_
   refine Z4y ?_
   refine ei_i rfl rfl (wn_some rfl rfl rfl hb2 rfl) (os_pull3 (os_pull3 (os_pull3 (os_pull3 (os_call cb_7 rfl (fun w s => BTake_calls (u := ⟨0, 1, nameR 1⟩) _ _ _ _ _ _ _ _ _ _ _ _ _ _ _ _ _ _ _ _  s rfl hsk (rds_row 3 rfl rfl))))))) rfl ?_; rintro _ _ ⟨rfl, rfl⟩; rw [hh3]; (try dsimp only); refine ⟨[_, _, _, _], rfl, ?_⟩
   refine e_q 16 rfl (wn_some rfl rfl rfl hb2 rfl) (op_eq rfl rfl) ?_
   refine e_q 17 rfl (wn_none rfl) (op_pick_t (v := .bool _) rfl hb2 rfl) ?_
   refine e_q 18 rfl (wn_none rfl) (op_move (v := .bool _) rfl) ?_
   refine et_split 31 rfl (fun hb3 => ?_) (fun hb3 => ?_)
   ·have hp3 := hb3
    (try simp only [bn] at hp3)
    refine e_q 19 rfl (wn_some rfl rfl rfl hb3 rfl) (op_move (v := .pointer _) rfl) ?_
    refine e_q 20 rfl (wn_some rfl rfl rfl hb3 rfl) (op_lda (L := rootC _) 0 ag_32 rfl rfl (rootC_take' _) (by simp [rootC_len])) ?_
    refine e_q 21 rfl (wn_some rfl rfl rfl hb3 rfl) (op_build (L := voteC _) (vs := [(1, .int _ _), (2, .agg (rootC _).toArray)]) bB_36 rfl ⟨⟨rfl, by rw [voteC_len]; rfl⟩, ⟨by simp [Value.cells, rootC_len], by rw [voteC_len]; rfl⟩, trivial⟩ ((voteC_b1 _ _ _).trans ((voteC_b2 _ _ _).trans rfl))) ?_
    refine et_1 (i := 22) (by kernel_rfl) ?_
    refine ei_i rfl rfl (wn_some rfl rfl rfl hb3 rfl) (os_pull3 (os_pull3 (os_pull3 (os_pull3 (os_call cb_7 rfl (fun w s => BTake_calls (u := ⟨0, 2, nameR 1⟩) _ _ _ _ _ _ _ _ _ _ _ _ _ _ _ _ _ _ _ _  s rfl hsk (rds_row 3 rfl rfl))))))) rfl ?_; rintro _ _ ⟨rfl, rfl⟩; rw [hh4]; refine ⟨[_, _, _, _], rfl, ?_⟩
    refine e_q 23 rfl (wn_some rfl rfl rfl hb3 rfl) (op_eq rfl rfl) ?_
    refine e_q 24 rfl (wn_none rfl) (op_pick_t (v := .bool _) rfl hb3 rfl) ?_
    refine e_q 25 rfl (wn_none rfl) (op_move (v := .bool _) rfl) ?_
    refine et_split 38 rfl (fun hb4 => ?_) (fun hb4 => ?_)
    ·have hp4 := hb4
     (try simp only [bn] at hp4)
     refine e_q 26 rfl (wn_some rfl rfl rfl hb4 rfl) (op_move (v := .pointer _) rfl) ?_
     refine e_q 27 rfl (wn_some rfl rfl rfl hb4 rfl) (op_lda (L := rootC _) 1 ag_32 rfl rfl (rootC_take' _) (by simp [rootC_len])) ?_
     refine et_1 (i := 28) (by kernel_rfl) ?_
     refine ei_i rfl rfl (wn_some rfl rfl rfl hb4 rfl) (os_back (os_pull2 (os_pull2 (os_pull2 (os_call cb_10 rfl (fun w s => BWeight_calls _ _ _ _ _ _ _ _ _ _ _ _ _ _ _ _ _ _ _ _ _  s ))))) (fun _ s => s)) rfl ?_; rintro _ _ ⟨rfl, rfl⟩; rw [hh5]; refine ⟨[_, _, _, _], rfl, ?_⟩
     refine e_q 29 rfl (wn_some rfl rfl rfl hb4 rfl) (op_eq rfl rfl) ?_
     refine e_q 30 rfl (wn_none rfl) (op_pick_t (v := .bool _) rfl hb4 rfl) ?_
     refine e_q 31 rfl (wn_none rfl) (op_move (v := .bool _) rfl) ?_
     refine et_split 44 rfl (fun hb5 => ?_) (fun hb5 => ?_)
     ·have hp5 := hb5
      (try simp only [bn] at hp5)
      refine e_q 32 rfl (wn_some rfl rfl rfl hb5 rfl) (op_move (v := .pointer _) rfl) ?_
      refine e_q 34 rfl (wn_some rfl rfl rfl hb5 rfl) (op_lda (L := rootC _) 0 ag_32 rfl rfl (rootC_take' _) (by simp [rootC_len])) ?_
      refine et_1 (i := 33) (by kernel_rfl) ?_
      refine ei_i rfl rfl (wn_some rfl rfl rfl hb5 rfl) (os_back (os_pull2 (os_pull2 (os_pull2 (os_call cb_9 rfl (fun w s => BHead_calls _ _ _ _ _ _ _ _ _ _ _ _ _ _ _ _ _ _ _ _  s (Nat.le_of_eq (ownE_len _ _ _)) hq2))))) (fun _ s => s)) rfl ?_; rintro _ _ ⟨rfl, rfl⟩; rw [hh6]; refine ⟨[_, _, _, _], rfl, ?_⟩
      refine e_q 35 rfl (wn_some rfl rfl rfl hb5 rfl) (op_eqroot _ _ rB_32 rfl rfl) ?_
      refine e_q 36 rfl (wn_none rfl) (op_pick_t (v := .bool _) rfl hb5 rfl) ?_
      refine e_q 37 rfl (wn_none rfl) (op_assign (v := .bool _) rfl) ?_
      refine Z1v ?_
      exact Ze6
     have hp5 := hb5
     (try simp only [bn] at hp5)
     exact absurd hb5 (by simp)
    have hp4 := hb4
    (try simp only [bn] at hp4)
    exact absurd hb4 (by simp)
   have hp3 := hb3
   (try simp only [bn] at hp3)
   exact absurd hb3 (by simp)
  have hp2 := hb2
  (try simp only [bn] at hp2)
  exact absurd hb2 (by simp)
 have hp1 := hb1
 (try simp only [bn] at hp1)
 exact absurd hb1 (by simp)
end Go.SL

set_option linter.unusedVariables false
set_option linter.unusedSimpArgs false
namespace Go.SL
open Go.Proofs

set_option maxRecDepth 100000 in
set_option maxHeartbeats 1000000 in
theorem BForgetNil_calls {w0 w : World} {l : List HProp} (slot : Int) (hs : Sat w0 w (l))  :
  Calls Tryz.prog 5 #[.pointer none, .int .i64 slot] w (Ret w0 fun v l' => v = .tuple #[] ∧ l' = l) := by
 refine calls_enter Tryz.func5 rfl rfl rfl hs ?_
 refine Zc ?_
 refine oq (op_nenil Tryz.underlying27 rfl rfl) ?_
 refine Z3x ?_
 refine cd_skip ?_
 exact px_end0 rfl (fun _ s => s) ⟨rfl, rfl⟩

set_option maxRecDepth 100000 in
set_option maxHeartbeats 1000000 in
theorem BAddNil_calls {w0 w : World} {l : List HProp} (r q : Root) (slot : Int) (hs : Sat w0 w (l))  :
  Calls Tryz.prog 6 #[.pointer none, .agg (rootC r).toArray, .agg (rootC q).toArray, .int .i64 slot] w (Ret w0 fun v l' => v = .int .i64 2 ∧ l' = l) := by
 refine calls_enter Tryz.func6 rfl rfl rfl hs ?_
 refine Zw ?_; intro bx1
 refine Z2c ?_; intro bx2
 refine Z5o ?_
 refine Z3n ?_
 refine Z2x ?_
 exact Z71

set_option maxRecDepth 100000 in
set_option maxHeartbeats 1000000 in
theorem BTakeNil_calls {w0 w : World} {l : List HProp} (u : Vote) (hs : Sat w0 w (l))  :
  Calls Tryz.prog 7 #[.pointer none, .agg (voteC u).toArray] w (Ret w0 fun v l' => v = .int .i64 5 ∧ l' = l) := by
 refine calls_enter Tryz.func7 rfl rfl rfl hs ?_
 refine Z3k ?_; intro bx1
 refine Z3n ?_
 refine Z2x ?_
 exact Z9o

set_option maxRecDepth 100000 in
set_option maxHeartbeats 1000000 in
theorem BKeepNil_calls {w0 w : World} {l : List HProp} (r : Root) (hs : Sat w0 w (l))  :
  Calls Tryz.prog 8 #[.pointer none, .agg (rootC r).toArray] w (Ret w0 fun v l' => v = .int .i64 2 ∧ l' = l) := by
 refine calls_enter Tryz.func8 rfl rfl rfl hs ?_
 refine Z3k ?_; intro bx1
 refine Z3n ?_
 refine Z2x ?_
 exact Z9o

set_option maxRecDepth 100000 in
set_option maxHeartbeats 1000000 in
theorem BWeightNil_calls {w0 w : World} {l : List HProp} (r : Root) (hs : Sat w0 w (l))  :
  Calls Tryz.prog 10 #[.pointer none, .agg (rootC r).toArray] w (Ret w0 fun v l' => v = .int .i64 0 ∧ l' = l) := by
 refine calls_enter Tryz.func10 rfl rfl rfl hs ?_
 refine Z3k ?_; intro bx1
 refine Z3n ?_
 refine Z2x ?_
 exact Z9o

set_option maxRecDepth 100000 in
set_option maxHeartbeats 1000000 in
theorem BTreeNil_calls {w0 w : World} {l : List HProp}  (hs : Sat w0 w (l))  :
  Calls Tryz.prog 11 #[.pointer none] w (Ret w0 fun v l' => v = .pointer none ∧ l' = l) := by
 refine calls_enter Tryz.func11 rfl rfl rfl hs ?_
 refine Z2k ?_
 refine Z4q ?_
 refine Z3n ?_
 refine Z3f ?_
 refine Z1h ?_
 refine Zs ?_
 exact px_ret1 rfl (v := .pointer _) rfl (fun _ s => s) ⟨rfl, rfl⟩

set_option maxRecDepth 100000 in
set_option maxHeartbeats 1000000 in
theorem BTableNil_calls {w0 w : World} {l : List HProp}  (hs : Sat w0 w (l))  :
  Calls Tryz.prog 12 #[.pointer none] w (Ret w0 fun v l' => v = .pointer none ∧ l' = l) := by
 refine calls_enter Tryz.func12 rfl rfl rfl hs ?_
 refine Z2k ?_
 refine Z4q ?_
 refine Z3n ?_
 refine Z3f ?_
 refine Z1h ?_
 refine Zs ?_
 exact px_ret1 rfl (v := .pointer _) rfl (fun _ s => s) ⟨rfl, rfl⟩

set_option maxRecDepth 100000 in
set_option maxHeartbeats 1000000 in
theorem BHeadNil_calls {w0 w : World} {l : List HProp}  (hs : Sat w0 w (l))  :
  Calls Tryz.prog 9 #[.pointer none] w (Ret w0 fun v l' => v = .agg (rootC Root.zero).toArray ∧ l' = l) := by
 refine calls_enter Tryz.func9 rfl rfl rfl hs ?_
 refine Z1 ?_
 refine Z19 ?_; intro bx1
 refine Z4q ?_
 refine Z3n ?_
 refine Z1y ?_
 refine Z1 ?_
 refine Z5w ?_
 refine Z41 ?_
 refine Zs ?_
 exact px_rv1 rfl (rv_cella 0 ag_32 rfl rfl (rootC_take' _) (by simp [rootC_len])) (fun _ s => (s.del 0)) ⟨rfl, rfl⟩

theorem effT_at {t : TabS} {N : Nat} {F : List First} {Lv : List Vote} {Hs Ou : List Bool} (hR : RTabOf t N F Lv Hs Ou) (hw : t.WF) {i : Nat} (h : i < N) (h1 : i < Lv.length) (h2 : i < Hs.length) (h3 : i < Ou.length) : effT t i = if Hs[i] = true ∧ Ou[i] = false then some Lv[i].target else none := by
 have hN := hR.n
 have e1 : Lv[i] = (t.latest[i]'(by omega)).getD Vote.zero := by simp only [hR.l, List.getElem_map]
 have e2 : Hs[i] = (t.latest[i]'(by omega)).isSome := by simp only [hR.h, List.getElem_map]
 have e3 : Ou[i] = t.out[i]'(by rw [← hR.o]; exact h3) := by simp only [hR.o]
 rw [effT_row (by omega) hw.lo, e1, e2, e3]
theorem place_no {t : TreeS} (hw : t.WF) {r : Root} {q : Nat} (hq : q < t.nodes.length) (h : t.place r < 0) : r ≠ rtA t.nodes q := fun e => by
 rcases place_idx (t := t) (r := r) with ⟨z, _⟩ | ⟨_, _, z, _⟩
 ·rw [e, idx_rt hw hq] at z; cases z
 ·omega

set_option maxRecDepth 100000 in
set_option maxHeartbeats 1000000 in
theorem RBWeights_calls {w0 w : World} {l : List HProp} (pm pr pq : Nat) (ao : Option Addr) (c : Nat) (xs : List Val) (n1 n2 n3 n4 n5 n6 n7 n8 n9 n10 n11 : Int) (t : TreeS) (tb : TabS) (hs : Sat w0 w ((Blk pm (.cells #[.slice ao xs.length c, .int .i64 n1, .int .i64 n2, .int .i64 n3, .int .i64 n4, .int .i64 n5, .int .i64 n6, .int .i64 n7, .int .i64 n8, .int .i64 n9, .int .i64 n10, .int .i64 n11, .pointer (some ⟨pr, 0, none⟩), .pointer (some ⟨pq, 0, none⟩)] 60 (0, 0))) :: (RTreeObj pr t) :: (RTabObj pq tb) :: l)) (hn : tb.latest.length = xs.length) (hsk : StkOK xs) (hr : Rds w0 l encVal ao xs) :
  Calls Tryz.prog 19 #[.pointer (some ⟨pm, 0, none⟩)] w (Ret w0 fun v l' => ∃ pz, v = .pointer (some ⟨pz, 0, none⟩) ∧ l' = RWObj pz pr (ownE xs (effT tb) t.nodes) :: Blk pm (.cells #[.slice ao xs.length c, .int .i64 n1, .int .i64 n2, .int .i64 n3, .int .i64 n4, .int .i64 n5, .int .i64 n6, .int .i64 n7, .int .i64 n8, .int .i64 n9, .int .i64 n10, .int .i64 n11, .pointer (some ⟨pr, 0, none⟩), .pointer (some ⟨pq, 0, none⟩)] 60 (0, 0)) :: RTreeObj pr t :: RTabObj pq tb :: l) := by
 have hw := (hs.pull 1).rtreeWF
 replace hs : Sat w0 w (RTabObj pq tb :: Blk pm (.cells #[.slice ao xs.length c, .int .i64 n1, .int .i64 n2, .int .i64 n3, .int .i64 n4, .int .i64 n5, .int .i64 n6, .int .i64 n7, .int .i64 n8, .int .i64 n9, .int .i64 n10, .int .i64 n11, .pointer (some ⟨pr, 0, none⟩), .pointer (some ⟨pq, 0, none⟩)] 60 (0, 0)) :: RTreeObj pr t :: l) := hs.pull 2
 obtain ⟨b1, d1, b2, d2, b3, d3, b4, d4, N, F, Lv, Hs, Ou, htw, hT, hs⟩ := hs.rtabOpen
 have hn1 := htw.n1
 have hNN := hT.n
 have hLl : Lv.length = N := by rw [hT.l, hT.n, List.length_map]
 have hHl : Hs.length = N := by rw [hT.h, hT.n, List.length_map]
 have hOl : Ou.length = N := by rw [hT.o, hT.n]; exact htw.lo
 have hle := hw.le
 have hm2 := hw.m2
 refine calls_enter Tryz.func19 rfl rfl rfl hs ?_
 refine Z2k ?_
 refine Z0 ?_
 refine Z17 ?_
 refine oq (op_field fld_60_1 rfl) ?_
 refine oq (op_ld 5 sc_57 rfl rfl rfl) ?_
 refine Z2f ?_
 refine oi (os_call cb_47 rfl (fun w s => RWNew_calls _ _  s )) ?_; rintro _ _ ⟨pm1, rfl, rfl⟩
 refine Zf ?_
 refine Z2j ?_
 refine cd_rwOpen ?_; intro a4 c4
 rw [← ownK_zero (vs := xs) (E := effT tb), ownK_len]
 refine Z17 ?_
 refine oq (op_field fld_60_0 rfl) ?_
 refine Z3w ?_
 refine oq (op_ld 8 sc_22 rfl rfl rfl) ?_
 refine Z4e ?_
 refine Z12 ?_
 refine cd_pull1 ?_
 refine cd_loop2 (α := Nat) [(4, 6), (18, 82)] (fun x => [(18, .int .i64 (x : Int))]) (fun x => Row 3 encI64 (.slice a4 t.nodes.length c4) (ownK xs (effT tb) t.nodes x) :: _) (fun x => x ≤ xs.length) (fun x => xs.length - x) 0 (Nat.zero_le _) ⟨rfl, trivial⟩ (fun _ s => s) ?_
 rintro j hj f; (try dsimp only at hj ⊢)
 have hol : (ownK xs (effT tb) t.nodes j).length = t.nodes.length := ownK_len _
 refine Zn ?_
 refine cd_cond rfl (fun hb1 => ?_) (fun hb1 => ?_)
 ·have hp1 := hb1
  (try simp only [bn] at hp1)
  have hj1 : j < xs.length := by omega
  have hE := effT_at hT htw (i := j) (by omega) (by omega) (by omega) (by omega)
  refine Z5p ?_
  refine oq (op_index j sB_22 rfl rfl rfl (((((((((hr.cons _).cons _).cons _).cons _).cons _).cons _).cons _).cons _).cons _) (by first | rfl | omega) (by omega)) ?_
  refine oq (op_ldaw (L := valC _) ag_66 (((((((((hr.cons _).cons _).cons _).cons _).cons _).cons _).cons _).cons _).cons _) rfl (by omega) rfl (valC_ta _)) ?_
  refine Z7p ?_; intro bx1
  refine Zq ?_
  refine Z7q ?_
  refine Z2j ?_
  refine cd_draw (M := []) mx [15] (by kernel_rfl) ?_
  refine Z6 ?_
  refine Z9s ?_
  refine rg_q (wn_none rfl) (op_ld 9 sc_57 rfl rfl rfl) rfl rfl ?_
  refine Zby ?_
  refine rg_q (wn_none rfl) (op_ld 9 sc_58 rfl rfl rfl) rfl rfl ?_
  refine Z8y ?_
  refine rg_q (wn_none rfl) (op_field fld_106_3 rfl) rfl rfl ?_
  refine rg_q (wn_none rfl) (op_ld 4 sc_103 rfl rfl rfl) rfl rfl ?_
  refine Zb ?_
  refine rg_q (wn_none rfl) (op_index j sB_103 rfl rfl rfl (rds_row 6 rfl rfl) (by first | rfl | omega) (by omega)) rfl rfl ?_
  refine rg_q (wn_none rfl) (op_fielde fld_36_2 rfl (rds_row 6 rfl rfl) (by omega)) rfl rfl ?_
  refine rg_q (wn_none rfl) (op_ldaf (L := rootC _) 2 ag_32 (rds_row 6 rfl rfl) rfl (by omega) rfl (voteC_f2 _)) rfl rfl ?_
  refine rg_i (wn_none rfl) (os_back (os_pull3 (os_call cb_48 rfl (fun w s => RPlace_calls _ _ _  s ))) (fun _ s => ((((((((((s.pull 9).pull 9).pull 9).pull 9).pull 9).pull 9).pull 6).pull 9).pull 9).pull 9))) rfl rfl ?_; rintro _ _ ⟨rfl, rfl⟩; refine ⟨[], rfl, ?_⟩
  refine Z3q ?_
  refine Z17 ?_
  refine oq (op_field fld_60_2 rfl) ?_
  refine oq (op_ld 9 sc_58 rfl rfl rfl) ?_
  refine Zj ?_
  refine oq (op_field fld_106_4 rfl) ?_
  refine oq (op_ld 4 sc_104 rfl rfl rfl) ?_
  refine Z4 ?_
  refine oq (op_index j sB_104 rfl rfl rfl (rds_row 7 rfl rfl) (by first | rfl | omega) (by omega)) ?_
  refine oq (op_ldw sc_4 (rds_row 7 rfl rfl) rfl (by omega) rfl) ?_
  refine Z5 ?_
  refine ol_split 49 rfl (fun hb2 => ?_) (fun hb2 => ?_)
  ·have hp2 := hb2
   (try simp only [bn] at hp2)
   have hh1 : Hs[j] = true := by simpa using hb2
   refine Zad ?_
   refine Zae ?_
   refine ol_q (wn_some rfl rfl rfl hb2 rfl) (op_field fld_60_2 rfl) rfl ?_
   refine ol_q (wn_some rfl rfl rfl hb2 rfl) (op_ld 9 sc_58 rfl rfl rfl) rfl ?_
   refine Zae ?_
   refine ol_q (wn_some rfl rfl rfl hb2 rfl) (op_field fld_106_5 rfl) rfl ?_
   refine ol_q (wn_some rfl rfl rfl hb2 rfl) (op_ld 4 sc_104 rfl rfl rfl) rfl ?_
   refine Z47 ?_
   refine ol_q (wn_some rfl rfl rfl hb2 rfl) (op_index j sB_104 rfl rfl rfl (rds_row 8 rfl rfl) (by first | rfl | omega) (by omega)) rfl ?_
   refine ol_q (wn_some rfl rfl rfl hb2 rfl) (op_ldw sc_4 (rds_row 8 rfl rfl) rfl (by omega) rfl) rfl ?_
   refine ol_q (wn_some rfl rfl rfl hb2 rfl) (op_not rfl) rfl ?_
   refine Z39 ?_
   refine Z5 ?_
   refine ol_split 62 rfl (fun hb3 => ?_) (fun hb3 => ?_)
   ·have hp3 := hb3
    (try simp only [bn] at hp3)
    have hh2 : Ou[j] = false := by simpa using hb3
    refine Z5a ?_
    refine ol_q (wn_some rfl rfl rfl hb3 rfl) (op_ge rfl rfl) rfl ?_
    refine Z48 ?_
    refine Z0 ?_
    refine cd_cond rfl (fun hb4 => ?_) (fun hb4 => ?_)
    ·have hp4 := hb4
     (try simp only [bn] at hp4)
     obtain ⟨x0, hpx, hx0, hrx⟩ : ∃ x0 : Nat, t.place (Lv[j]).target = x0 ∧ x0 < t.nodes.length ∧ rtA t.nodes x0 = (Lv[j]).target := by
      rcases place_idx (t := t) (r := (Lv[j]).target) with ⟨_, z⟩ | ⟨x0, _, h1, h2, h3⟩
      ·omega
      exact ⟨x0, h1, h2, h3⟩
     have hEs : effT tb j = some (rtA t.nodes x0) := by rw [hE, if_pos ⟨hh1, hh2⟩, hrx]
     have hgo := ownK_at (vs := xs) (E := effT tb) (k := j) hx0 (by rw [ownK_len]; exact hx0)
     have hst := (ownK_step (vs := xs) (E := effT tb) hw hx0 hEs).symm
     rw [← hgo, stk_get hj1] at hst
     have h1 := sg_nonneg (f := shareE xs (effT tb) (rtA t.nodes x0)) (m := j) (fun q _ => share_nn hsk)
     have h2 := sg_mono (f := shareE xs (effT tb) (rtA t.nodes x0)) (show j + 1 ≤ xs.length by omega) (fun q _ => share_nn hsk)
     have h3 := all_le (E := effT tb) (r := rtA t.nodes x0) hsk
     have h4 := hsk.tt
     have h6 := sg_succ (f := shareE xs (effT tb) (rtA t.nodes x0)) (m := j)
     have h7 : shareE xs (effT tb) (rtA t.nodes x0) j = xs[j].stake := by unfold shareE; rw [hEs, if_pos rfl, stk_get hj1]
     have h8 := share_nn (E := effT tb) (r := rtA t.nodes x0) (w := j) hsk
     unfold allE at h3
     refine cd_drawt (M := []) mx [] 16 (by kernel_rfl) rfl rfl ?_
     dsimp only [List.take_succ_cons, List.take_zero, List.drop_succ_cons, List.drop_zero]
     refine Z6 ?_
     refine rg_q (wn_none rfl) (op_field fld_108_1 rfl) rfl rfl ?_
     refine Zaa ?_
     refine Zb ?_
     refine Z6 ?_
     refine rg_q (wn_none rfl) (op_field fld_108_1 rfl) rfl rfl ?_
     refine Zaa ?_
     refine Zb ?_
     refine rg_q (wn_none rfl) (op_index x0 sB_54 rfl rfl hpx (rds_row 1 rfl rfl) (by first | rfl | omega) (by omega)) rfl rfl ?_
     refine rg_q (wn_none rfl) (op_ldw sc_3 (rds_row 1 rfl rfl) rfl (by omega) rfl) rfl rfl ?_
     refine Zcs ?_
     refine Z6v ?_
     refine rg_q (wn_none rfl) (op_index x0 sB_54 rfl rfl hpx (rds_row 1 rfl rfl) (by first | rfl | omega) (by omega)) rfl rfl ?_
     refine rg_tail0 ?_
     refine Z8 ?_
     refine oN (os_stsw  sc_3 rfl rfl rfl (by omega) rfl rfl) ?_; rintro _ _ ⟨rfl, rfl⟩
     refine Z2y ?_
     refine px_loop2 (j + 1) (by omega) (by (try dsimp only); omega) ⟨congrArg (Value.int .i64) (by simp), trivial⟩ ?_ (fun _ s => (by (try dsimp only); rw [hst]; exact (s.del 1)))
     exact Z2
    have hp4 := hb4
    (try simp only [bn] at hp4)
    have hst : (ownK xs (effT tb) t.nodes (j + 1)) = (ownK xs (effT tb) t.nodes j) := ownK_skip (fun q hq => by rw [hE]; rw [if_pos ⟨hh1, hh2⟩]; exact fun z => place_no hw hq (by omega) (Option.some.inj z))
    refine Z29 ?_
    refine Zcl ?_
    exact Z2
   have hp3 := hb3
   (try simp only [bn] at hp3)
   have hh2 : Ou[j] = true := by simpa using hb3
   have hst : (ownK xs (effT tb) t.nodes (j + 1)) = (ownK xs (effT tb) t.nodes j) := ownK_skip (fun q hq => by rw [hE]; rw [if_neg (fun z => by rw [hh2] at z; cases z.2)]; simp)
   refine Z2m ?_
   refine Z4w ?_
   refine Z3x ?_
   refine Z29 ?_
   refine Zcl ?_
   exact Z2
  have hp2 := hb2
  (try simp only [bn] at hp2)
  have hh1 : Hs[j] = false := by simpa using hb2
  have hst : (ownK xs (effT tb) t.nodes (j + 1)) = (ownK xs (effT tb) t.nodes j) := ownK_skip (fun q hq => by rw [hE]; rw [if_neg (fun z => by rw [hh1] at z; cases z.1)]; simp)
  refine Z18 ?_
  refine Z18 ?_
  refine Z18 ?_
  refine Z18 ?_
  refine Z18 ?_
  refine Z5r ?_
  refine Z2q ?_
  refine Z62 ?_
  refine Z7a ?_
  refine Z3x ?_
  refine Z29 ?_
  refine Zcl ?_
  exact Z2
 have hp1 := hb1
 (try simp only [bn] at hp1)
 have hje : j = xs.length := by omega
 refine Zx ?_
 refine Zc ?_
 refine Zf ?_
 refine Z1h ?_
 subst hje
 exact px_ret1 rfl (v := .pointer _) (l' := RWObj _ pr (ownE xs (effT tb) t.nodes) :: Blk pm (.cells #[.slice ao xs.length c, .int .i64 n1, .int .i64 n2, .int .i64 n3, .int .i64 n4, .int .i64 n5, .int .i64 n6, .int .i64 n7, .int .i64 n8, .int .i64 n9, .int .i64 n10, .int .i64 n11, .pointer (some ⟨pr, 0, none⟩), .pointer (some ⟨pq, 0, none⟩)] 60 (0, 0)) :: RTreeObj pr t :: RTabObj pq tb :: l) rfl (fun _ s => by
  have s2 := Sat.rtabMk htw hT rfl rfl rfl rfl (((((((((s.pull 2).pull 8).pull 2).pull 3).pull 8).pull 8).pull 8).pull 8).pull 8)
  have s3 := Sat.rwMk (o := (ownE xs (effT tb) t.nodes)) (ownE_len _ _ _).symm (ownE_len _ _ _).symm ((s2.pull 2).pull 2)
  exact ((s3.pull 3).pull 3).pull 2) ⟨_, rfl, rfl⟩

theorem vdoO_calls {w0 w : World} {l : List HProp} (pb pt pw pv pm pr pq : Nat) (ao : Option Addr) (c : Nat) (xs : List Val) (n1 n2 n3 n4 n5 n6 n7 n8 n9 n10 n11 : Int) (gg : Root) (t : TreeS) (tb : TabS) (a : VAct) (hs : Sat w0 w (RTreeObj pr t :: Blk pb (.cells #[.slice ao xs.length c, .int .i64 n1, .int .i64 n2, .int .i64 n3, .int .i64 n4, .int .i64 n5, .int .i64 n6, .int .i64 n7, .int .i64 n8, .int .i64 n9, .int .i64 n10, .int .i64 n11, .pointer (some ⟨pt, 0, none⟩), .pointer (some ⟨pw, 0, none⟩), .pointer (some ⟨pv, 0, none⟩)] 72 (0, 0)) :: TreeObj pt t :: WObj pw pt t.nodes (ownE xs (effT tb) t.nodes) :: TabObj pv tb :: Blk pm (.cells #[.slice ao xs.length c, .int .i64 n1, .int .i64 n2, .int .i64 n3, .int .i64 n4, .int .i64 n5, .int .i64 n6, .int .i64 n7, .int .i64 n8, .int .i64 n9, .int .i64 n10, .int .i64 n11, .pointer (some ⟨pr, 0, none⟩), .pointer (some ⟨pq, 0, none⟩)] 60 (0, 0)) :: RTabObj pq tb :: l)) (hn : tb.latest.length = xs.length) (hsk : StkOK xs) (hxl : xs.length ≤ 64) (hk : ∀ y ∈ xs, y.key.length ≤ 32) (hr : Rds w0 l encVal ao xs) (hs0 : a.slot ≤ 9223372036854775807) (hG : (shaM ([116, 111, 108, 108, 101, 114] ++ bytesC ⟨⟨ao, xs.length, c⟩, n1, n2, n3, n4, n5, n6, n7, n8, n9, n10, n11⟩ xs)) = gg) :
  Calls Tryz.prog 16 #[.pointer (some ⟨pb, 0, none⟩), .pointer (some ⟨pm, 0, none⟩), .agg (vActC a).toArray] w (Ret w0 fun v l' => ∃ qt qw qr a1 c1 a2 c2 a3 c3 R Sl Pa, v = .bool true ∧ ((stepB gg ⟨t, tb⟩ a)).t.WF ∧ RTreeOf ((stepB gg ⟨t, tb⟩ a)).t R Sl Pa ∧ l' = Blk qr (.cells #[.slice a1 R.length c1, .slice a2 Sl.length c2, .slice a3 Pa.length c3, .int .i64 (stepB gg ⟨t, tb⟩ a).t.most] 56 (0, 0)) :: Row 32 encRoot (.slice a1 R.length c1) R :: Row 3 encI64 (.slice a2 Sl.length c2) Sl :: Row 32 encRoot (.slice a3 Pa.length c3) Pa :: Blk pb (.cells #[.slice ao xs.length c, .int .i64 n1, .int .i64 n2, .int .i64 n3, .int .i64 n4, .int .i64 n5, .int .i64 n6, .int .i64 n7, .int .i64 n8, .int .i64 n9, .int .i64 n10, .int .i64 n11, .pointer (some ⟨qt, 0, none⟩), .pointer (some ⟨qw, 0, none⟩), .pointer (some ⟨pv, 0, none⟩)] 72 (0, 0)) :: TreeObj qt (stepB gg ⟨t, tb⟩ a).t :: WObj qw qt (stepB gg ⟨t, tb⟩ a).t.nodes (ownE xs (effT (stepB gg ⟨t, tb⟩ a).tb) (stepB gg ⟨t, tb⟩ a).t.nodes) :: TabObj pv (stepB gg ⟨t, tb⟩ a).tb :: Blk pm (.cells #[.slice ao xs.length c, .int .i64 n1, .int .i64 n2, .int .i64 n3, .int .i64 n4, .int .i64 n5, .int .i64 n6, .int .i64 n7, .int .i64 n8, .int .i64 n9, .int .i64 n10, .int .i64 n11, .pointer (some ⟨qr, 0, none⟩), .pointer (some ⟨pq, 0, none⟩)] 60 (0, 0)) :: RTabObj pq (stepB gg ⟨t, tb⟩ a).tb :: l) :=
 (vdo_calls pb pt pw pv pm pr pq ao c xs n1 n2 n3 n4 n5 n6 n7 n8 n9 n10 n11 gg t tb a (hs.push 5) hn hsk hxl hk hr hs0 hG).mono fun e w' ⟨v, l', he, ⟨qt, qw, qr, hv, hl⟩, hs'⟩ => by
  subst hl
  obtain ⟨a1, c1, a2, c2, a3, c3, R, Sl, Pa, hw, hR, s⟩ := (hs'.pull 5).rtreeOpen
  exact ⟨v, _, he, ⟨qt, qw, qr, a1, c1, a2, c2, a3, c3, R, Sl, Pa, hv, hw, hR, rfl⟩, s⟩

set_option maxRecDepth 100000 in
set_option maxHeartbeats 1000000 in
theorem VotesDo_calls {w0 w : World} {l : List HProp} (ao : Option Addr) (c : Nat) (xs : List Val) (n1 n2 n3 n4 n5 n6 n7 n8 n9 n10 n11 : Int) (lo : Option Addr) (lc : Nat) (acts : List VAct) (hs : Sat w0 w (l)) (hr : Rds w0 l encVal ao xs) (hqv : ∀ y ∈ xs, I64 y.stake ∧ y.key.length ≤ maxLen) (hra : Rds w0 l encVAct lo acts) (hqa : ∀ a ∈ acts, I64 a.kind ∧ I64 a.root ∧ I64 a.parent ∧ I64 a.slot ∧ I64 a.who) :
  Calls Tryz.prog 3 #[.agg (cfgC ⟨⟨ao, xs.length, c⟩, n1, n2, n3, n4, n5, n6, n7, n8, n9, n10, n11⟩).toArray, .slice lo acts.length lc] w (Ret w0 fun v l' => v = .bool true ∧ l' = l) := by
 refine calls_enter Tryz.func3 rfl rfl rfl hs ?_
 refine Zw ?_; intro bx1
 refine Z3h ?_
 refine oi (os_call cb_4 rfl (fun w s => vAlive_calls  s )) ?_; rintro _ _ ⟨rfl, rfl⟩
 refine Z3m ?_
 refine Z2u ?_
 refine Z2k ?_
 refine Z0 ?_
 refine Zc ?_
 refine oi (os_call cb_5 rfl (fun w s => BForgetNil_calls (slot := 1)  s )) ?_; rintro _ _ ⟨rfl, rfl⟩
 refine Z4q ?_
 refine Z5w ?_
 refine Z5w ?_
 refine oi (os_call cb_6 rfl (fun w s => BAddNil_calls (slot := 1) _ _  s )) ?_; rintro _ _ ⟨rfl, rfl⟩
 refine oq (op_ne rfl rfl) ?_
 refine Z5 ?_
 refine ol_split 23 rfl (fun hb1 => ?_) (fun hb1 => ?_)
 ·have hp1 := hb1
  (try simp only [bn] at hp1)
  exact absurd hb1 (by simp)
 have hp1 := hb1
 (try simp only [bn] at hp1)
 refine Z5d ?_
 refine ol_q (wn_some rfl rfl rfl hb1 rfl) (op_build (L := voteC _) (vs := []) bB_36 rfl trivial rfl) rfl ?_
 refine ol_i (wn_some rfl rfl rfl hb1 rfl) (os_call cb_7 rfl (fun w s => BTakeNil_calls _  s )) rfl ?_; rintro _ _ ⟨rfl, rfl⟩
 refine ol_q (wn_some rfl rfl rfl hb1 rfl) (op_ne rfl rfl) rfl ?_
 refine Z21 ?_
 refine Z5 ?_
 refine ol_split 29 rfl (fun hb2 => ?_) (fun hb2 => ?_)
 ·have hp2 := hb2
  (try simp only [bn] at hp2)
  exact absurd hb2 (by simp)
 have hp2 := hb2
 (try simp only [bn] at hp2)
 refine Zad ?_
 refine ol_q (wn_some rfl rfl rfl hb2 rfl) (op_buildr rfl rB_32 zBr_32) rfl ?_
 refine ol_i (wn_some rfl rfl rfl hb2 rfl) (os_call cb_8 rfl (fun w s => BKeepNil_calls _  s )) rfl ?_; rintro _ _ ⟨rfl, rfl⟩
 refine ol_q (wn_some rfl rfl rfl hb2 rfl) (op_ne rfl rfl) rfl ?_
 refine Z2q ?_
 refine Z5 ?_
 refine ol_split 35 rfl (fun hb3 => ?_) (fun hb3 => ?_)
 ·have hp3 := hb3
  (try simp only [bn] at hp3)
  exact absurd hb3 (by simp)
 have hp3 := hb3
 (try simp only [bn] at hp3)
 refine ol_q (wn_some rfl rfl rfl hb3 rfl) (op_move (v := .pointer _) rfl) rfl ?_
 refine ol_i (wn_some rfl rfl rfl hb3 rfl) (os_call cb_9 rfl (fun w s => BHeadNil_calls  s )) rfl ?_; rintro _ _ ⟨rfl, rfl⟩
 refine ol_q (wn_some rfl rfl rfl hb3 rfl) (op_buildr rfl rB_32 zBr_32) rfl ?_
 refine ol_q (wn_some rfl rfl rfl hb3 rfl) (op_neroot _ _ rB_32 rfl rfl) rfl ?_
 refine Z4w ?_
 refine Z5 ?_
 refine ol_split 41 rfl (fun hb4 => ?_) (fun hb4 => ?_)
 ·have hp4 := hb4
  (try simp only [bn] at hp4)
  exact absurd hb4 (by simp)
 have hp4 := hb4
 (try simp only [bn] at hp4)
 refine ol_q (wn_some rfl rfl rfl hb4 rfl) (op_move (v := .pointer _) rfl) rfl ?_
 refine ol_q (wn_some rfl rfl rfl hb4 rfl) (op_buildr rfl rB_32 zBr_32) rfl ?_
 refine ol_i (wn_some rfl rfl rfl hb4 rfl) (os_call cb_10 rfl (fun w s => BWeightNil_calls _  s )) rfl ?_; rintro _ _ ⟨rfl, rfl⟩
 refine ol_q (wn_some rfl rfl rfl hb4 rfl) (op_ne rfl rfl) rfl ?_
 refine oq (op_pick_f (v := .bool _) rfl hb4 rfl) ?_
 refine Z5 ?_
 refine ol_split 47 rfl (fun hb5 => ?_) (fun hb5 => ?_)
 ·have hp5 := hb5
  (try simp only [bn] at hp5)
  exact absurd hb5 (by simp)
 have hp5 := hb5
 (try simp only [bn] at hp5)
 refine ol_q (wn_some rfl rfl rfl hb5 rfl) (op_move (v := .pointer _) rfl) rfl ?_
 refine ol_i (wn_some rfl rfl rfl hb5 rfl) (os_call cb_11 rfl (fun w s => BTreeNil_calls  s )) rfl ?_; rintro _ _ ⟨rfl, rfl⟩
 refine ol_q (wn_some rfl rfl rfl hb5 rfl) (op_nenil Tryz.underlying40 rfl rfl) rfl ?_
 refine oq (op_pick_f (v := .bool _) rfl hb5 rfl) ?_
 refine Z5 ?_
 refine ol_q (wn_some rfl rfl rfl rfl rfl) (op_move (v := .pointer _) rfl) rfl ?_
 refine ol_i (wn_some rfl rfl rfl rfl rfl) (os_call cb_12 rfl (fun w s => BTableNil_calls  s )) rfl ?_; rintro _ _ ⟨rfl, rfl⟩
 refine ol_q (wn_some rfl rfl rfl rfl rfl) (op_nenil Tryz.underlying42 rfl rfl) rfl ?_
 refine Z7a ?_
 refine Z2u ?_
 refine Z1 ?_
 refine Z4g ?_
 refine Zg ?_
 refine oi (os_call cb_13 rfl (fun w s => vbegun_calls _ _ _ _ _ _ _ _ _ _ _ _ _ _  _ _ acts _ s (hr.cons _) hqv (by decide))) ?_; rintro _ l2 (⟨hbad1, rfl, hl2⟩ | ⟨hgc1, hmo1, pb1, pt1, pw1, pv1, pm1, pr1, pq1, rfl, rfl⟩)
 ·rw [hl2]
  refine Z3a ?_
  refine Z5x ?_
  refine Z5x ?_
  refine Z5e ?_
  refine Zf ?_
  refine Zf ?_
  refine Z3h ?_
  refine Z2v ?_
  refine Z1y ?_
  refine Z1 ?_
  refine Zg ?_
  refine oq (op_len_slice Tryz.underlying25 rfl) ?_
  refine oq (op_gt rfl rfl) ?_
  refine Z5 ?_
  refine ol_split 69 rfl (fun hb6 => ?_) (fun hb6 => ?_)
  ·have hp6 := hb6
   (try simp only [bn] at hp6)
   refine Z6e ?_
   refine Z6e ?_
   refine oq (op_pick_t (v := .bool _) rfl hb6 rfl) ?_
   refine Z62 ?_
   refine Z3r ?_
   refine Z3r ?_
   refine Z83 ?_
   refine Z83 ?_
   refine Z3r ?_
   refine Z66 ?_
   refine Zm ?_
   exact Zcm
  have hp6 := hb6
  (try simp only [bn] at hp6)
  refine ol_q (wn_some rfl rfl rfl hb6 rfl) (op_lda (L := cfgC _) 0 ag_24 rfl rfl (cfgC_ta _) (by simp [cfgC_len])) rfl ?_
  refine ol_i (wn_some rfl rfl rfl hb6 rfl) (os_call cb_14 rfl (fun w s => Great_calls _ _ _ _ _ _ _ _ _ _ _ _ _ _  s (hr.cons _))) rfl ?_; rintro _ _ ⟨rfl, rfl⟩
  refine oq (op_pick_f (v := .bool _) rfl hb6 rfl) ?_
  refine Z5 ?_
  refine ol_split 73 rfl (fun hb7 => ?_) (fun hb7 => ?_)
  ·have hp7 := hb7
   (try simp only [bn] at hp7)
   refine Z9t ?_
   refine Z9t ?_
   refine Z9t ?_
   refine Z9t ?_
   refine Z83 ?_
   refine Z83 ?_
   refine Z9t ?_
   refine oq (op_pick_t (v := .bool _) rfl hb7 rfl) ?_
   refine Zm ?_
   exact Zcm
  have hp7 := hb7
  (try simp only [bn] at hp7)
  have hg9 : greatC xs = false := by simpa using hb7
  have hxl : xs.length ≤ 100 := by have z := hg9; unfold greatC at z; rw [Bool.or_eq_false_iff] at z; have := of_decide_eq_false z.1; omega
  refine ol_q (wn_some rfl rfl rfl hb7 rfl) (op_lda (L := cfgC _) 0 ag_24 rfl rfl (cfgC_ta _) (by simp [cfgC_len])) rfl ?_
  refine ol_i (wn_some rfl rfl rfl hb7 rfl) (os_call cb_15 rfl (fun w s => RGood_calls _ _ _ _ _ _ _ _ _ _ _ _ _ _  s (hr.cons _) (by first | omega | (simp; done) | (simp; omega)) (by assumption))) rfl ?_; rintro _ _ ⟨rfl, rfl⟩
  refine ol_q (wn_some rfl rfl rfl hb7 rfl) (op_not rfl) rfl ?_
  refine ol_q (wn_some rfl rfl rfl hb7 rfl) (op_move (v := .bool _) rfl) rfl ?_
  refine ol_split 77 rfl (fun hb8 => ?_) (fun hb8 => ?_)
  ·have hp8 := hb8
   (try simp only [bn] at hp8)
   refine ol_q (wn_some rfl rfl rfl hb8 rfl) (op_move (v := .pointer _) rfl) rfl ?_
   refine ol_q (wn_some rfl rfl rfl hb8 rfl) (op_eqnil Tryz.underlying27 rfl rfl) rfl ?_
   refine ol_q (wn_some rfl rfl rfl hb7 rfl) (op_pick_t (v := .bool _) rfl hb8 rfl) rfl ?_
   refine oq (op_pick_f (v := .bool _) rfl hb7 rfl) ?_
   refine Zm ?_
   exact Zcm
  have hp8 := hb8
  (try simp only [bn] at hp8)
  rcases hbad1 with h | h | h
  ·rw [hg9] at h; cases h
  ·omega
  have z : goodC ⟨⟨ao, xs.length, c⟩, n1, n2, n3, n4, n5, n6, n7, n8, n9, n10, n11⟩ xs = true := by simpa using hb8
  rw [h] at z; cases z
 generalize hG : (shaM ([116, 111, 108, 108, 101, 114] ++ bytesC ⟨⟨ao, xs.length, c⟩, n1, n2, n3, n4, n5, n6, n7, n8, n9, n10, n11⟩ xs)) = gg
 refine Z3a ?_
 refine Z5x ?_
 refine Z5x ?_
 refine Z5e ?_
 refine Zf ?_
 refine Zf ?_
 refine Z3h ?_
 refine Z2v ?_
 refine Z3x ?_
 refine Zr ?_
 have hbd := goodC_bd hgc1
 (try dsimp only at hbd)
 have hxl := hbd.2.2.1.2
 have hk := hbd.2.2.2
 have hsk := goodC_stk hgc1
 have hO0 : OKB xs.length (newB gg n3 xs.length n1) := OKB.new (by omega) (by omega) hxl (by omega) (by omega)
 refine Z1 ?_
 refine Zg ?_
 refine oq (op_len_slice Tryz.underlying25 rfl) ?_
 refine Z12 ?_
 refine cd_pull6 ?_
 refine cd_pull6 ?_
 refine cd_pull6 ?_
 refine cd_pull6 ?_
 refine cd_pull6 ?_
 refine cd_pull6 ?_
 refine cd_pull6 ?_
 refine cd_loop2 (α := Nat × Nat × Nat × Nat) [(4, 4), (10, 13), (84, 135)] (fun x => [(84, .int .i64 (x.1 : Int))]) (fun x => Blk pb1 (.cells #[.slice ao xs.length c, .int .i64 n1, .int .i64 n2, .int .i64 n3, .int .i64 n4, .int .i64 n5, .int .i64 n6, .int .i64 n7, .int .i64 n8, .int .i64 n9, .int .i64 n10, .int .i64 n11, .pointer (some ⟨x.2.1, 0, none⟩), .pointer (some ⟨x.2.2.1, 0, none⟩), .pointer (some ⟨pv1, 0, none⟩)] 72 (0, 0)) :: TreeObj x.2.1 (runB (newB gg n3 xs.length n1) gg (acts.take x.1)).t :: WObj x.2.2.1 x.2.1 (runB (newB gg n3 xs.length n1) gg (acts.take x.1)).t.nodes (ownE xs (effT (runB (newB gg n3 xs.length n1) gg (acts.take x.1)).tb) (runB (newB gg n3 xs.length n1) gg (acts.take x.1)).t.nodes) :: TabObj pv1 (runB (newB gg n3 xs.length n1) gg (acts.take x.1)).tb :: Blk pm1 (.cells #[.slice ao xs.length c, .int .i64 n1, .int .i64 n2, .int .i64 n3, .int .i64 n4, .int .i64 n5, .int .i64 n6, .int .i64 n7, .int .i64 n8, .int .i64 n9, .int .i64 n10, .int .i64 n11, .pointer (some ⟨x.2.2.2, 0, none⟩), .pointer (some ⟨pq1, 0, none⟩)] 60 (0, 0)) :: RTreeObj x.2.2.2 (runB (newB gg n3 xs.length n1) gg (acts.take x.1)).t :: RTabObj pq1 (runB (newB gg n3 xs.length n1) gg (acts.take x.1)).tb :: _) (fun x => x.1 ≤ acts.length) (fun x => acts.length - x.1) (0, pt1, pw1, pr1) (Nat.zero_le _) ⟨rfl, trivial⟩ (fun _ s => by (try dsimp only); rw [List.take_zero]; exact s) ?_
 rintro ⟨i, qt, qw, qr⟩ hi f; (try dsimp only at hi ⊢)
 have hO := hO0.run (g := gg) (acts.take i)
 have hw := hO.wf
 have htw := hO.tw
 have hln := hO.ln
 have hN1 := hw.le
 have hN2 := hw.m2
 have hN0 := hw.ne
 have hrl := roots_len (runB (newB gg n3 xs.length n1) gg (acts.take i)).t
 refine Zn ?_
 refine cd_cond rfl (fun hb9 => ?_) (fun hb9 => ?_)
 ·have hp9 := hb9
  (try simp only [bn] at hp9)
  have hi1 : i < acts.length := by omega
  have hO2 := hO0.run (g := gg) (acts.take (i + 1))
  have hw2 := hO2.wf
  have htw2 := hO2.tw
  have hln2 := hO2.ln
  have hN12 := hw2.le
  have hN22 := hw2.m2
  have hN02 := hw2.ne
  have hrl2 := roots_len (runB (newB gg n3 xs.length n1) gg (acts.take (i + 1))).t
  refine Z2l ?_
  refine oq (op_index i sB_25 rfl rfl rfl ((((((((hra.cons _).cons _).cons _).cons _).cons _).cons _).cons _).cons _) rfl (by omega)) ?_
  refine oq (op_ldaw (L := vActC _) ag_49 ((((((((hra.cons _).cons _).cons _).cons _).cons _).cons _).cons _).cons _) rfl (by omega) rfl (vActC_ta _)) ?_
  refine oi (os_alloc (cs := (vActC VAct.zero).toArray) zB_49 (by kernel_rfl)) ?_; rintro _ _ ⟨bx2, rfl, rfl⟩
  refine oN (os_storew (vActC _) ag_49 rfl rfl (vActC_len _) (vActC_one _) (by simp [vActC_len]) (Free.zero _)) ?_; rintro _ _ ⟨rfl, rfl⟩
  refine Z2j ?_
  refine cd_cut (α := Nat × Nat × Nat) [(88, 106)] (fun y => [(106, .bool false)]) (fun y => RTreeObj y.2.2 (runB (newB gg n3 xs.length n1) gg (acts.take (i + 1))).t :: Blk pb1 (.cells #[.slice ao xs.length c, .int .i64 n1, .int .i64 n2, .int .i64 n3, .int .i64 n4, .int .i64 n5, .int .i64 n6, .int .i64 n7, .int .i64 n8, .int .i64 n9, .int .i64 n10, .int .i64 n11, .pointer (some ⟨y.1, 0, none⟩), .pointer (some ⟨y.2.1, 0, none⟩), .pointer (some ⟨pv1, 0, none⟩)] 72 (0, 0)) :: TreeObj y.1 (runB (newB gg n3 xs.length n1) gg (acts.take (i + 1))).t :: WObj y.2.1 y.1 (runB (newB gg n3 xs.length n1) gg (acts.take (i + 1))).t.nodes (ownE xs (effT (runB (newB gg n3 xs.length n1) gg (acts.take (i + 1))).tb) (runB (newB gg n3 xs.length n1) gg (acts.take (i + 1))).t.nodes) :: TabObj pv1 (runB (newB gg n3 xs.length n1) gg (acts.take (i + 1))).tb :: Blk pm1 (.cells #[.slice ao xs.length c, .int .i64 n1, .int .i64 n2, .int .i64 n3, .int .i64 n4, .int .i64 n5, .int .i64 n6, .int .i64 n7, .int .i64 n8, .int .i64 n9, .int .i64 n10, .int .i64 n11, .pointer (some ⟨y.2.2, 0, none⟩), .pointer (some ⟨pq1, 0, none⟩)] 60 (0, 0)) :: RTabObj pq1 (runB (newB gg n3 xs.length n1) gg (acts.take (i + 1))).tb :: Blk bx1 (.cells (cfgC ⟨⟨ao, xs.length, c⟩, n1, n2, n3, n4, n5, n6, n7, n8, n9, n10, n11⟩).toArray 24 (0, 0)) :: l) ?_ ?_
  ·
   refine cd_pull6 ?_
   refine cd_pull2 ?_
   refine cd_pull3 ?_
   refine Z6p ?_
   refine Z77 ?_
   refine cd_drawe (M := [_, _, _, _, _, _, _]) mx [3, 7, 8, 12, 15, 16] ?_
   refine Z3b ?_
   refine Za8 ?_
   refine e_q 2 rfl (wn_none rfl) (op_lda (L := vActC _) 0 ag_49 rfl rfl (vActC_ta _) (by simp [vActC_len])) ?_
   refine Z6q ?_
   refine ei_i rfl rfl (wn_none rfl) (os_pull1 (os_pull2 (os_pull3 (os_pull4 (os_pull5 (os_pull6 (os_call cb_16 rfl (fun w s => vdoO_calls _ _ _ _ _ _ _ _ _ _ _ _ _ _ _ _ _ _ _ _ _ _ _ _ _  s hln hsk hxl hk ((hr.cons _).cons _) (hqa acts[i] (List.getElem_mem _)).2.2.2.1.2 hG)))))))) rfl ?_; rintro _ _ ⟨qt12, qw12, qr12, a1, c1, a2, c2, a3, c3, R9, Sl9, Pa9, rfl, hwO, hR9, rfl⟩; rw [← show (runB (newB gg n3 xs.length n1) gg (acts.take (i + 1))) = stepB gg ⟨(runB (newB gg n3 xs.length n1) gg (acts.take i)).t, (runB (newB gg n3 xs.length n1) gg (acts.take i)).tb⟩ acts[i] from runB_succ hi1] at hwO hR9 ⊢; refine ⟨[_, _, _, _, _, _, _, _, _, _], rfl, ?_⟩
   refine e_q 4 rfl (wn_none rfl) (op_not rfl) ?_
   refine e_q 5 rfl (wn_none rfl) (op_move (v := .bool _) rfl) ?_
   refine e_q 6 rfl (wn_some rfl rfl rfl rfl rfl) (op_move (v := .pointer _) rfl) ?_
   refine e_q 9 rfl (wn_some rfl rfl rfl rfl rfl) (op_move (v := .pointer _) rfl) ?_
   refine e_q 10 rfl (wn_some rfl rfl rfl rfl rfl) (op_nilck rfl) ?_
   refine e_q 11 rfl (wn_some rfl rfl rfl rfl rfl) (op_field fld_60_1 rfl) ?_
   refine Z3u ?_ ?_
   ·
    refine Zcn ?_
    refine et_2 (i1 := 8) (i2 := 12) (by kernel_rfl) ?_ ?_
    ·
     refine Z8q ?_; intro ao14 ac14
     refine Z1w ?_
     refine ei_i rfl rfl (wn_some rfl rfl rfl rfl rfl) (os_q (op_ld 9 sc_57 rfl rfl rfl)) rfl ?_; rintro _ _ ⟨rfl, rfl⟩; refine ⟨[_, _, _, _, _, _, _, _, _, _, _], rfl, ?_⟩
     refine Zcr ?_
     refine Z4y ?_
     refine Zco ?_
     refine Z3t ?_
     refine Z8r ?_
     refine Z8s ?_
     refine Z8t ?_
     refine Z5h ?_
     refine Z8u ?_
     exact Z3
    refine Ze7 ?_
    refine Zcr ?_
    refine et_2 (i1 := 8) (i2 := 15) (by kernel_rfl) ?_ ?_
    ·
     refine Z8q ?_; intro ao16 ac16
     refine Z4y ?_
     refine Zco ?_
     refine Z3t ?_
     refine Z8r ?_
     refine Z8s ?_
     refine Z8t ?_
     refine Z5h ?_
     refine Z8u ?_
     exact Z3
    refine Zcp ?_
    refine Zo ?_
    refine Z8q ?_; intro ao18 ac18
    refine Z3t ?_
    refine Z8r ?_
    refine Z8s ?_
    refine Z8t ?_
    refine Z5h ?_
    refine Z8u ?_
    exact Z3
   refine Ze7 ?_
   refine Zcr ?_
   refine et_2 (i1 := 7) (i2 := 15) (by kernel_rfl) ?_ ?_
   ·
    refine Zcn ?_
    refine et_2 (i1 := 8) (i2 := 15) (by kernel_rfl) ?_ ?_
    ·
     refine Z8q ?_; intro ao21 ac21
     refine Z4y ?_
     refine Zco ?_
     refine Z3t ?_
     refine Z8r ?_
     refine Z8s ?_
     refine Z8t ?_
     refine Z5h ?_
     refine Z8u ?_
     exact Z3
    refine Zcp ?_
    refine Zo ?_
    refine Z8q ?_; intro ao23 ac23
    refine Z3t ?_
    refine Z8r ?_
    refine Z8s ?_
    refine Z8t ?_
    refine Z5h ?_
    refine Z8u ?_
    exact Z3
   refine Zcp ?_
   refine Z1b ?_
   refine Zcn ?_
   refine Zo ?_
   refine Z8q ?_; intro ao26 ac26
   refine Z3t ?_
   refine Z8r ?_
   refine Z8s ?_
   refine Z8t ?_
   refine Z5h ?_
   refine Z8u ?_
   exact Z3
  rintro ⟨qt0, qw0, qr0⟩ f; (try dsimp only)
  refine Z68 ?_
  refine Za ?_
  refine Zc ?_
  refine Z2f ?_
  refine Z8 ?_
  refine Z2f ?_
  refine oi (os_call cb_19 rfl (fun w s => RBWeights_calls _ _ _ _ _ _ _ _ _ _ _ _ _ _ _ _ _ _ _  s hln2 hsk (((((hr.cons _).cons _).cons _).cons _).cons _))) ?_; rintro _ _ ⟨pz28, rfl, rfl⟩
  refine Zf ?_
  refine Z2j ?_
  refine cd_pull2 ?_
  refine cd_rtreeOpen ?_; intro a1 c1 a2 c2 a3 c3 R Sl Pa hwR hR
  have hRl : R.length = (runB (newB gg n3 xs.length n1) gg (acts.take (i + 1))).t.nodes.length := by rw [hR.r, List.length_map]
  have hRr : ∀ q (h : q < R.length), R[q] = rtA (runB (newB gg n3 xs.length n1) gg (acts.take (i + 1))).t.nodes q := fun q h => by simp only [hR.r, List.getElem_map]; exact (rtA_get (by omega)).symm
  refine cd_pull4 ?_
  refine cd_rwOpen ?_; intro a4 c4
  refine Z17 ?_
  refine oq (op_field fld_60_1 rfl) ?_
  refine oq (op_ld 6 sc_57 rfl rfl rfl) ?_
  refine Zj ?_
  refine Z96 ?_
  refine oq (op_ld 2 sc_52 rfl rfl rfl) ?_
  refine Z6c ?_
  refine Z12 ?_
  refine cd_loop2 (α := Nat) [(4, 4), (12, 13), (117, 129)] (fun x => [(117, .int .i64 (x : Int))]) (fun _ => _) (fun x => x ≤ R.length) (fun x => R.length - x) 0 (Nat.zero_le _) ⟨rfl, trivial⟩ (fun _ s => s) ?_
  rintro k hk3 f; (try dsimp only at hk3 ⊢)
  refine Zn ?_
  refine cd_cond rfl (fun hb10 => ?_) (fun hb10 => ?_)
  ·have hp10 := hb10
   (try simp only [bn] at hp10)
   have hk4 : k < R.length := by omega
   have hk5 : k < (runB (newB gg n3 xs.length n1) gg (acts.take (i + 1))).t.nodes.length := by omega
   refine Z5p ?_
   refine oq (op_index k sB_52 rfl rfl rfl (rds_row 3 rfl rfl) rfl (by omega)) ?_
   refine oq (op_ldaw (L := rootC _) ag_32 (rds_row 3 rfl rfl) rfl (by omega) rfl (rootC_ta _)) ?_
   refine Z19 ?_; intro bx3
   refine Zq ?_
   refine Z2b ?_
   refine Z0 ?_
   refine Zc ?_
   refine Z20 ?_
   refine ol_pull11 ?_
   refine ol_pull11 ?_
   refine ol_pull11 ?_
   refine oi (os_call cb_10 rfl (fun w s => BWeight_calls _ _ _ _ _ _ _ _ _ _ _ _ _ _ _ _ _ _ _ _ _  s )) ?_; rintro _ _ ⟨rfl, rfl⟩; rw [hRr k hk4, ofF_rt hw2 hk5 (by rw [ownE_len]; exact hk5)]
   refine Z1j ?_
   refine Z4 ?_
   refine Z2z ?_
   refine ol_pull9 ?_
   refine ol_pull9 ?_
   refine ol_pull9 ?_
   refine ol_pull9 ?_
   refine oi (os_call cb_20 rfl (fun w s => RSum_calls _ _ _ _ _ _ _ _ _ _ _ _ _ _ _ _ _  s hw2 hR (Nat.le_of_eq (ownE_len _ _ _)) (ownE_ok hsk hw2) rfl (by rw [ownE_len]; exact hk5))) ?_; rintro _ _ ⟨rfl, rfl⟩
   refine Z4p ?_
   refine cd_cond rfl (fun hb11 => ?_) (fun hb11 => ?_)
   ·have hp11 := hb11
    (try simp only [bn] at hp11)
    exact absurd hb11 (by simp)
   have hp11 := hb11
   (try simp only [bn] at hp11)
   refine Z29 ?_
   refine px_pull13 ?_
   refine px_pull13 ?_
   refine px_pull10 ?_
   refine px_pull10 ?_
   refine px_pull10 ?_
   refine px_pull13 ?_
   refine px_pull13 ?_
   refine px_pull10 ?_
   refine px_pull10 ?_
   refine px_pull10 ?_
   refine px_pull10 ?_
   refine px_pull12 ?_
   refine px_pull12 ?_
   refine px_loop2 (k + 1) (by omega) (by (try dsimp only); omega) ⟨congrArg (Value.int .i64) (by simp), trivial⟩ ?_ (fun _ s => (s.del 13))
   exact Z2
  have hp10 := hb10
  (try simp only [bn] at hp10)
  refine Zx ?_
  refine Zc ?_
  refine ol_pull10 ?_
  refine ol_pull10 ?_
  refine ol_pull10 ?_
  refine oi (os_call cb_9 rfl (fun w s => BHead_calls _ _ _ _ _ _ _ _ _ _ _ _ _ _ _ _ _ _ _ _  s (Nat.le_of_eq (ownE_len _ _ _)) (by rw [ownE_len]; exact hN02))) ?_; rintro _ _ ⟨rfl, rfl⟩
  refine Z1j ?_
  refine ol_pull4 ?_
  refine ol_pull4 ?_
  refine ol_pull8 ?_
  refine ol_pull8 ?_
  refine ol_pull8 ?_
  refine ol_pull8 ?_
  refine oi (os_call cb_21 rfl (fun w s => RHeadWO_calls _ _ _ _ _ _ _ _ _ _ _ _ _ _ _  s hw2 hR (Nat.le_of_eq (ownE_len _ _ _)) (ownE_ok hsk hw2) (by rw [ownE_len]; exact hN02))) ?_; rintro _ _ ⟨rfl, rfl⟩
  refine oq (op_neroot _ _ rB_32 rfl rfl) ?_
  refine Z0 ?_
  refine cd_cond rfl (fun hb12 => ?_) (fun hb12 => ?_)
  ·have hp12 := hb12
   (try simp only [bn] at hp12)
   exact absurd hb12 (by simp)
  have hp12 := hb12
  (try simp only [bn] at hp12)
  refine cd_skip ?_
  refine Z8v ?_
  refine cd_imp (fun _ s => Sat.rtreeMk hwR hR rfl rfl rfl s) ?_
  refine Z22 ?_
  refine Zbp ?_
  refine px_pull9 ?_
  refine px_pull8 ?_
  refine px_pull2 ?_
  refine px_pull8 ?_
  refine px_pull9 ?_
  refine px_pull9 ?_
  refine px_pull9 ?_
  refine px_pull9 ?_
  refine px_loop2 (i + 1, qt0, qw0, qr0) (by dsimp only; omega) (by (try dsimp only); omega) ⟨congrArg (Value.int .i64) (by simp), trivial⟩ ?_ (fun _ s => ((s.del 9).del 8))
  exact Z2
 have hp9 := hb9
 (try simp only [bn] at hp9)
 refine Z1u ?_
 refine Zh ?_
 exact Ze6
end Go.SL


import Derived.Test.YtdeemlgkckpedaaNm
import Derived.Test.YtdeemlgkckpedaaMTree
set_option linter.unusedVariables false
set_option linter.unusedSimpArgs false
namespace Go.SL
open Go.Proofs

theorem laidOutT : laidOutB Try.prog = true := by kernel_rfl
theorem keyed_root : Go.Maps.Keyed Try.prog 24 := Go.Maps.Keyed.of_law (deep_law_laid laidOutT (m := 3) (by omega) (show 24 < Try.prog.types.size from Nat.le_of_ble_eq_true (by kernel_rfl)) (by kernel_rfl) (by kernel_rfl))
/-- a tree: all that it owns -/
def TreeObj (p : Nat) (t : TreeS) : HProp := ex fun x : Option Addr × Nat × Nat => match x with | (a1, c1, b) => stars [pr t.WF, Blk p (.cells #[.slice a1 t.nodes.length c1, .map (some b), .int .i64 t.most] 114 (0, 0)), Row 51 encNode (.slice a1 t.nodes.length c1) t.nodes, MapO EVR EVI b (atOf t.nodes)]
theorem Sat.treeOpen {w0 w : World} {l : List HProp} {p : Nat} {t : TreeS} (s : Sat w0 w (TreeObj p t :: l)) : ∃ a1 c1 b, t.WF ∧ Sat w0 w (Blk p (.cells #[.slice a1 t.nodes.length c1, .map (some b), .int .i64 t.most] 114 (0, 0)) :: Row 51 encNode (.slice a1 t.nodes.length c1) t.nodes :: MapO EVR EVI b (atOf t.nodes) :: l) := by
 obtain ⟨⟨a1, c1, b⟩, s⟩ := Sat.ex_iff.1 s
 have s1 := Sat.stars_iff.1 s
 obtain ⟨hw, s2⟩ := Sat.pr_iff.1 s1
 exact ⟨a1, c1, b, hw, s2⟩
theorem Sat.treeMk {w0 w : World} {l : List HProp} {p : Nat} {t : TreeS} {a1 : Option Addr} {c1 b m1 : Nat} (hw : t.WF) (h1 : m1 = t.nodes.length)
  (s : Sat w0 w (Blk p (.cells #[.slice a1 m1 c1, .map (some b), .int .i64 t.most] 114 (0, 0)) :: Row 51 encNode (.slice a1 m1 c1) t.nodes :: MapO EVR EVI b (atOf t.nodes) :: l)) : Sat w0 w (TreeObj p t :: l) := by
 subst h1
 exact Sat.ex_iff.2 ⟨(a1, c1, b), Sat.stars_iff.2 (Sat.pr_iff.2 ⟨hw, s⟩)⟩
theorem Sat.treeWF {w0 w : World} {l : List HProp} {p : Nat} {t : TreeS} (s : Sat w0 w (TreeObj p t :: l)) : t.WF := let ⟨_, _, _, h, _⟩ := s.treeOpen; h
theorem cd_treeOpen {w0 : World} {n : Nat} {Q : Exit → Act → World → Prop} {f : Fr} {c : Code} {l : List HProp} {p : Nat} {t : TreeS} (h : ∀ a1 c1 b, t.WF → CD Try.prog w0 n c Q f (Blk p (.cells #[.slice a1 t.nodes.length c1, .map (some b), .int .i64 t.most] 114 (0, 0)) :: Row 51 encNode (.slice a1 t.nodes.length c1) t.nodes :: MapO EVR EVI b (atOf t.nodes) :: l)) : CD Try.prog w0 n c Q f (TreeObj p t :: l) := fun a w r s =>
 let ⟨a1, c1, b, hw, s'⟩ := s.treeOpen
 h a1 c1 b hw a w r s'
theorem keyok_tree {t : TreeS} (hw : t.WF) (r : Root) : KeyOK Try.prog 24 EVR (atOf t.nodes) r := keyokR keyed_root rk_24 r (by rw [atOf_keys]; exact hw.nd)

set_option maxRecDepth 100000 in
set_option maxHeartbeats 1000000 in
theorem TNew_calls {w0 w : World} {l : List HProp} (r : Root) (slot most : Int) (hs : Sat w0 w (l))  :
  Calls Try.prog 45 #[.agg (rootC r).toArray, .int .i64 slot, .int .i64 most] w (Ret w0 fun v l' => (v = .tuple #[.pointer none, .int .i64 1] ∧ l' = l ∧ (most < 1 ∨ 256 < most ∨ slot < 0 ∨ 1073741824 < slot)) ∨ ∃ p, v = .tuple #[.pointer (some ⟨p, 0, none⟩), .int .i64 0] ∧ (1 ≤ most ∧ most ≤ 256 ∧ 0 ≤ slot ∧ slot ≤ 1073741824) ∧ l' = TreeObj p (TreeS.new r slot most) :: l) := by
 refine calls_enter Try.func45 rfl rfl rfl hs ?_
 refine cd_sr ?_
 refine oi (os_boxa rfl) ?_; rintro _ _ ⟨bx1, rfl, rfl⟩
 refine oq (op_assign (v := .pointer _) rfl) ?_
 refine oq (op_assign (v := .int _ _) rfl) ?_
 refine ol_nil_then ?_
 refine cd_seq ?_
 refine cd_sr ?_
 refine oq (op_move (v := .int _ _) rfl) ?_
 refine oq (op_lt rfl rfl) ?_
 refine oq (op_move (v := .bool _) rfl) ?_
 refine ol_split 10 rfl (fun hb1 => ?_) (fun hb1 => ?_)
 ·have hp1 := hb1
  (try simp only [bn] at hp1)
  refine ol_skip (wn_some rfl rfl rfl hb1 rfl) rfl ?_
  refine ol_skip (wn_some rfl rfl rfl hb1 rfl) rfl ?_
  refine oq (op_pick_t (v := .bool _) rfl hb1 rfl) ?_
  refine oq (op_move (v := .bool _) rfl) ?_
  refine ol_skip (wn_some rfl rfl rfl rfl rfl) rfl ?_
  refine ol_skip (wn_some rfl rfl rfl rfl rfl) rfl ?_
  refine oq (op_pick_t (v := .bool _) rfl rfl rfl) ?_
  refine oq (op_move (v := .bool _) rfl) ?_
  refine ol_skip (wn_some rfl rfl rfl rfl rfl) rfl ?_
  refine ol_skip (wn_some rfl rfl rfl rfl rfl) rfl ?_
  refine oq (op_pick_t (v := .bool _) rfl rfl rfl) ?_
  refine ol_nil_then ?_
  refine cd_cond_t rfl rfl ?_
  refine cd_sr ?_
  refine oq (op_assign (v := .pointer _) rfl) ?_
  refine oq (op_assign (v := .int _ _) rfl) ?_
  refine ol_nil_then ?_
  refine cd_ret ?_
  refine px_thenR ?_
  exact px_ret2 rfl (v1 := .pointer _) (v2 := .int _ _) rfl rfl (fun _ s => (s.del 0)) (.inl ⟨rfl, rfl, by omega⟩)
 ·have hp1 := hb1
  (try simp only [bn] at hp1)
  refine ol_q (wn_some rfl rfl rfl hb1 rfl) (op_move (v := .int _ _) rfl) rfl ?_
  refine ol_q (wn_some rfl rfl rfl hb1 rfl) (op_gt rfl rfl) rfl ?_
  refine oq (op_pick_f (v := .bool _) rfl hb1 rfl) ?_
  refine oq (op_move (v := .bool _) rfl) ?_
  refine ol_split 14 rfl (fun hb2 => ?_) (fun hb2 => ?_)
  ·have hp2 := hb2
   (try simp only [bn] at hp2)
   refine ol_skip (wn_some rfl rfl rfl hb2 rfl) rfl ?_
   refine ol_skip (wn_some rfl rfl rfl hb2 rfl) rfl ?_
   refine oq (op_pick_t (v := .bool _) rfl hb2 rfl) ?_
   refine oq (op_move (v := .bool _) rfl) ?_
   refine ol_skip (wn_some rfl rfl rfl rfl rfl) rfl ?_
   refine ol_skip (wn_some rfl rfl rfl rfl rfl) rfl ?_
   refine oq (op_pick_t (v := .bool _) rfl rfl rfl) ?_
   refine ol_nil_then ?_
   refine cd_cond_t rfl rfl ?_
   refine cd_sr ?_
   refine oq (op_assign (v := .pointer _) rfl) ?_
   refine oq (op_assign (v := .int _ _) rfl) ?_
   refine ol_nil_then ?_
   refine cd_ret ?_
   refine px_thenR ?_
   exact px_ret2 rfl (v1 := .pointer _) (v2 := .int _ _) rfl rfl (fun _ s => (s.del 0)) (.inl ⟨rfl, rfl, by omega⟩)
  ·have hp2 := hb2
   (try simp only [bn] at hp2)
   refine ol_q (wn_some rfl rfl rfl hb2 rfl) (op_move (v := .int _ _) rfl) rfl ?_
   refine ol_q (wn_some rfl rfl rfl hb2 rfl) (op_lt rfl rfl) rfl ?_
   refine oq (op_pick_f (v := .bool _) rfl hb2 rfl) ?_
   refine oq (op_move (v := .bool _) rfl) ?_
   refine ol_split 18 rfl (fun hb3 => ?_) (fun hb3 => ?_)
   ·have hp3 := hb3
    (try simp only [bn] at hp3)
    refine ol_skip (wn_some rfl rfl rfl hb3 rfl) rfl ?_
    refine ol_skip (wn_some rfl rfl rfl hb3 rfl) rfl ?_
    refine oq (op_pick_t (v := .bool _) rfl hb3 rfl) ?_
    refine ol_nil_then ?_
    refine cd_cond_t rfl rfl ?_
    refine cd_sr ?_
    refine oq (op_assign (v := .pointer _) rfl) ?_
    refine oq (op_assign (v := .int _ _) rfl) ?_
    refine ol_nil_then ?_
    refine cd_ret ?_
    refine px_thenR ?_
    exact px_ret2 rfl (v1 := .pointer _) (v2 := .int _ _) rfl rfl (fun _ s => (s.del 0)) (.inl ⟨rfl, rfl, by omega⟩)
   ·have hp3 := hb3
    (try simp only [bn] at hp3)
    refine ol_q (wn_some rfl rfl rfl hb3 rfl) (op_move (v := .int _ _) rfl) rfl ?_
    refine ol_q (wn_some rfl rfl rfl hb3 rfl) (op_gt rfl rfl) rfl ?_
    refine oq (op_pick_f (v := .bool _) rfl hb3 rfl) ?_
    refine ol_nil_then ?_
    refine cd_cond rfl (fun hb4 => ?_) (fun hb4 => ?_)
    ·have hp4 := hb4
     (try simp only [bn] at hp4)
     refine cd_sr ?_
     refine oq (op_assign (v := .pointer _) rfl) ?_
     refine oq (op_assign (v := .int _ _) rfl) ?_
     refine ol_nil_then ?_
     refine cd_ret ?_
     refine px_thenR ?_
     exact px_ret2 rfl (v1 := .pointer _) (v2 := .int _ _) rfl rfl (fun _ s => (s.del 0)) (.inl ⟨rfl, rfl, by omega⟩)
    ·have hp4 := hb4
     (try simp only [bn] at hp4)
     refine cd_skip ?_
     refine px_then ?_
     refine cd_seq ?_
     refine cd_drawe (M := []) mx [3, 4, 6, 10] ?_
     refine e_q 0 rfl (wn_none rfl) (op_lda (L := rootC _) 0 ag_24 rfl rfl (rootC_take' _) (by simp [rootC_len])) ?_
     refine e_q 1 rfl (wn_none rfl) (op_move (v := .int _ _) rfl) ?_
     refine e_q 2 rfl (wn_none rfl) (op_build (L := nodeC _) (vs := [(0, .agg (rootC _).toArray), (1, .int _ _), (2, .int _ _)]) bB_51 rfl ⟨⟨by simp [Value.cells, rootC_len], by rw [nodeC_len]; rfl⟩, ⟨rfl, by rw [nodeC_len]; rfl⟩, ⟨rfl, by rw [nodeC_len]; rfl⟩, trivial⟩ ((nodeC_b0 _ _ _).trans ((nodeC_b1 _ _ _).trans ((nodeC_b2 _ _ _).trans rfl)))) ?_
     refine e_q 5 rfl (wn_none rfl) (op_lda (L := rootC _) 0 ag_24 rfl rfl (rootC_take' _) (by simp [rootC_len])) ?_
     refine e_q 8 rfl (wn_none rfl) (op_move (v := .int _ _) rfl) ?_
     refine et_2 (i1 := 3) (i2 := 4) (by kernel_rfl) ?_ ?_
     ·
      refine ei_i rfl rfl (wn_none rfl) (os_bslice (E := encNode) [_] (ys := [_]) sB_111 zv_51 rfl rfl rfl rfl (by decide)) rfl ?_; rintro _ _ ⟨ao1, rfl, rfl⟩; refine ⟨[_], rfl, ?_⟩
      refine et_1 (i := 4) (by kernel_rfl) ?_
      refine ei_i rfl rfl (wn_none rfl) (os_makeMapO EVR EVI) rfl ?_; rintro _ _ ⟨mp2, rfl, rfl⟩; refine ⟨[_, _], rfl, ?_⟩
      refine et_1 (i := 6) (by kernel_rfl) ?_
      refine ei_iN rfl rfl (wn_none rfl) (os_insert r (0 : Int) Try.underlying112 (keyokR keyed_root rk_24 r (by simp)) rfl rfl rfl) ?_; rintro _ _ ⟨rfl, rfl⟩; refine ⟨[_, _], rfl, ?_⟩
      refine e_q 7 rfl (wn_none rfl) (op_move (v := .map _) rfl) ?_
      refine e_q 9 rfl (wn_none rfl) (op_build (L := [_, _, _]) (vs := [(0, .slice _ _ _), (1, .map _), (2, .int _ _)]) bB_114 rfl ⟨⟨rfl, rfl⟩, ⟨rfl, rfl⟩, ⟨rfl, rfl⟩, trivial⟩ rfl) ?_
      refine et_1 (i := 10) (by kernel_rfl) ?_
      refine ei_i rfl rfl (wn_none rfl) (os_boxa rfl) rfl ?_; rintro _ _ ⟨bx3, rfl, rfl⟩; refine ⟨[_, _, _], rfl, ?_⟩
      refine e_q 11 rfl (wn_none rfl) (op_assign (v := .pointer _) rfl) ?_
      refine e_q 12 rfl (wn_none rfl) (op_assign (v := .int _ _) rfl) ?_
      refine et_nil_then (by kernel_rfl) ?_
      refine cd_ret ?_
      exact px_ret2 rfl (v1 := .pointer _) (v2 := .int _ _) (l' := TreeObj _ (TreeS.new r slot most) :: l) rfl rfl (fun _ s => Sat.treeMk (t := TreeS.new r slot most) (TreeS.WF.new (by omega) (by omega) (by omega) (by omega)) rfl ((((s.del 3).pull 1).pull 2).pull 2)) (.inr ⟨_, rfl, by omega, rfl⟩)
     ·
      refine ei_i rfl rfl (wn_none rfl) (os_makeMapO EVR EVI) rfl ?_; rintro _ _ ⟨mp4, rfl, rfl⟩; refine ⟨[_], rfl, ?_⟩
      refine et_2 (i1 := 3) (i2 := 6) (by kernel_rfl) ?_ ?_
      ·
       refine ei_i rfl rfl (wn_none rfl) (os_bslice (E := encNode) [_] (ys := [_]) sB_111 zv_51 rfl rfl rfl rfl (by decide)) rfl ?_; rintro _ _ ⟨ao2, rfl, rfl⟩; refine ⟨[_, _], rfl, ?_⟩
       refine et_1 (i := 6) (by kernel_rfl) ?_
       refine ei_iN rfl rfl (wn_none rfl) (os_pull1 (os_insert r (0 : Int) Try.underlying112 (keyokR keyed_root rk_24 r (by simp)) rfl rfl rfl)) ?_; rintro _ _ ⟨rfl, rfl⟩; refine ⟨[_, _], rfl, ?_⟩
       refine e_q 7 rfl (wn_none rfl) (op_move (v := .map _) rfl) ?_
       refine e_q 9 rfl (wn_none rfl) (op_build (L := [_, _, _]) (vs := [(0, .slice _ _ _), (1, .map _), (2, .int _ _)]) bB_114 rfl ⟨⟨rfl, rfl⟩, ⟨rfl, rfl⟩, ⟨rfl, rfl⟩, trivial⟩ rfl) ?_
       refine et_1 (i := 10) (by kernel_rfl) ?_
       refine ei_i rfl rfl (wn_none rfl) (os_boxa rfl) rfl ?_; rintro _ _ ⟨bx5, rfl, rfl⟩; refine ⟨[_, _, _], rfl, ?_⟩
       refine e_q 11 rfl (wn_none rfl) (op_assign (v := .pointer _) rfl) ?_
       refine e_q 12 rfl (wn_none rfl) (op_assign (v := .int _ _) rfl) ?_
       refine et_nil_then (by kernel_rfl) ?_
       refine cd_ret ?_
       exact px_ret2 rfl (v1 := .pointer _) (v2 := .int _ _) (l' := TreeObj _ (TreeS.new r slot most) :: l) rfl rfl (fun _ s => Sat.treeMk (t := TreeS.new r slot most) (TreeS.WF.new (by omega) (by omega) (by omega) (by omega)) rfl ((((s.del 3).pull 1).pull 2).pull 2)) (.inr ⟨_, rfl, by omega, rfl⟩)
      ·
       refine ei_iN rfl rfl (wn_none rfl) (os_insert r (0 : Int) Try.underlying112 (keyokR keyed_root rk_24 r (by simp)) rfl rfl rfl) ?_; rintro _ _ ⟨rfl, rfl⟩; refine ⟨[_], rfl, ?_⟩
       refine e_q 7 rfl (wn_none rfl) (op_move (v := .map _) rfl) ?_
       refine et_1 (i := 3) (by kernel_rfl) ?_
       refine ei_i rfl rfl (wn_none rfl) (os_bslice (E := encNode) [_] (ys := [_]) sB_111 zv_51 rfl rfl rfl rfl (by decide)) rfl ?_; rintro _ _ ⟨ao3, rfl, rfl⟩; refine ⟨[_, _], rfl, ?_⟩
       refine e_q 9 rfl (wn_none rfl) (op_build (L := [_, _, _]) (vs := [(0, .slice _ _ _), (1, .map _), (2, .int _ _)]) bB_114 rfl ⟨⟨rfl, rfl⟩, ⟨rfl, rfl⟩, ⟨rfl, rfl⟩, trivial⟩ rfl) ?_
       refine et_1 (i := 10) (by kernel_rfl) ?_
       refine ei_i rfl rfl (wn_none rfl) (os_boxa rfl) rfl ?_; rintro _ _ ⟨bx6, rfl, rfl⟩; refine ⟨[_, _, _], rfl, ?_⟩
       refine e_q 11 rfl (wn_none rfl) (op_assign (v := .pointer _) rfl) ?_
       refine e_q 12 rfl (wn_none rfl) (op_assign (v := .int _ _) rfl) ?_
       refine et_nil_then (by kernel_rfl) ?_
       refine cd_ret ?_
       exact px_ret2 rfl (v1 := .pointer _) (v2 := .int _ _) (l' := TreeObj _ (TreeS.new r slot most) :: l) rfl rfl (fun _ s => Sat.treeMk (t := TreeS.new r slot most) (TreeS.WF.new (by omega) (by omega) (by omega) (by omega)) rfl (s.del 3)) (.inr ⟨_, rfl, by omega, rfl⟩)

set_option maxRecDepth 100000 in
set_option maxHeartbeats 1000000 in
theorem Place_calls {w0 w : World} {l : List HProp} (p : Nat) (t : TreeS) (r : Root) (hs : Sat w0 w ((TreeObj p t) :: l))  :
  Calls Try.prog 31 #[.pointer (some ⟨p, 0, none⟩), .agg (rootC r).toArray] w (Ret w0 fun v l' => v = .int .i64 (t.place r) ∧ l' = TreeObj p t :: l) := by
 obtain ⟨a1, c1, b, hw, hs⟩ := hs.treeOpen
 have hm1 := hw.m1; have hm2 := hw.m2; have hle := hw.le; have hne := hw.ne
 refine calls_enter Try.func31 rfl rfl rfl hs ?_
 refine cd_sr ?_
 refine oi (os_boxa rfl) ?_; rintro _ _ ⟨bx1, rfl, rfl⟩
 refine oq (op_assign (v := .int _ _) rfl) ?_
 refine ol_nil_then ?_
 refine cd_seq ?_
 refine cd_sr ?_
 refine oq (op_move (v := .pointer _) rfl) ?_
 refine oq (op_eqnil Try.underlying26 rfl rfl) ?_
 refine ol_nil_then ?_
 refine cd_cond_f rfl rfl ?_
 refine cd_skip ?_
 refine px_then ?_
 refine cd_seq ?_
 rcases hlk : idxOf t.nodes r with _ | i0
 ·
  refine cd_seq ?_
  refine cd_draw (M := []) mx [] (by kernel_rfl) ?_
  refine rg_q (wn_none rfl) (op_move (v := .pointer _) rfl) rfl rfl ?_
  refine rg_q (wn_none rfl) (op_nilck rfl) rfl rfl ?_
  refine rg_q (wn_none rfl) (op_field fld_114_1 rfl) rfl rfl ?_
  refine rg_q (wn_none rfl) (op_ld 1 sc_112 rfl rfl rfl) rfl rfl ?_
  refine rg_q (wn_none rfl) (op_lda (L := rootC _) 0 ag_24 rfl rfl (rootC_take' _) (by simp [rootC_len])) rfl rfl ?_
  refine rg_q (wn_none rfl) (op_lookup2N 3 r Try.underlying112 zB_3 (keyok_tree hw r) (by rw [look_at_, hlk]; rfl) rfl rfl rfl) rfl rfl ?_
  refine rg_q (wn_none rfl) (op_move (v := .tuple _) rfl) rfl rfl ?_
  refine rg_q (wn_none rfl) (op_extract (v := .int _ _) rfl rfl) rfl rfl ?_
  refine rg_q (wn_none rfl) (op_extract (v := .bool _) rfl rfl) rfl rfl ?_
  refine rg_q (wn_none rfl) (op_assign (v := .int _ _) rfl) rfl rfl ?_
  refine rg_q (wn_none rfl) (op_assign (v := .bool _) rfl) rfl rfl ?_
  refine rg_nil_then0 ?_
  refine cd_sr ?_
  refine oq (op_move (v := .bool _) rfl) ?_
  refine ol_nil_then ?_
  refine cd_cond_f rfl rfl ?_
  refine cd_skip ?_
  refine px_then ?_
  refine cd_sr ?_
  refine oq (op_assign (v := .int _ _) rfl) ?_
  refine ol_nil_then ?_
  refine cd_ret ?_
  exact px_ret1 rfl (v := .int _ _) (l' := TreeObj p t :: l) rfl (fun _ s => Sat.treeMk hw rfl (s.del 0)) ⟨congrArg (Value.int .i64) (by unfold TreeS.place; rw [hlk]), rfl⟩
 ·
  refine cd_seq ?_
  refine cd_draw (M := []) mx [] (by kernel_rfl) ?_
  refine rg_q (wn_none rfl) (op_move (v := .pointer _) rfl) rfl rfl ?_
  refine rg_q (wn_none rfl) (op_nilck rfl) rfl rfl ?_
  refine rg_q (wn_none rfl) (op_field fld_114_1 rfl) rfl rfl ?_
  refine rg_q (wn_none rfl) (op_ld 1 sc_112 rfl rfl rfl) rfl rfl ?_
  refine rg_q (wn_none rfl) (op_lda (L := rootC _) 0 ag_24 rfl rfl (rootC_take' _) (by simp [rootC_len])) rfl rfl ?_
  refine rg_q (wn_none rfl) (op_lookup2S 3 r Try.underlying112 zB_3 (keyok_tree hw r) (by rw [look_at_, hlk]; rfl) rfl rfl rfl) rfl rfl ?_
  refine rg_q (wn_none rfl) (op_move (v := .tuple _) rfl) rfl rfl ?_
  refine rg_q (wn_none rfl) (op_extract (v := .int _ _) rfl rfl) rfl rfl ?_
  refine rg_q (wn_none rfl) (op_extract (v := .bool _) rfl rfl) rfl rfl ?_
  refine rg_q (wn_none rfl) (op_assign (v := .int _ _) rfl) rfl rfl ?_
  refine rg_q (wn_none rfl) (op_assign (v := .bool _) rfl) rfl rfl ?_
  refine rg_nil_then0 ?_
  refine cd_sr ?_
  refine oq (op_move (v := .bool _) rfl) ?_
  refine ol_nil_then ?_
  refine cd_cond_t rfl rfl ?_
  refine cd_sr ?_
  refine oq (op_move (v := .int _ _) rfl) ?_
  refine oq (op_assign (v := .int _ _) rfl) ?_
  refine ol_nil_then ?_
  refine cd_ret ?_
  refine px_thenR ?_
  exact px_ret1 rfl (v := .int _ _) (l' := TreeObj p t :: l) rfl (fun _ s => Sat.treeMk hw rfl (s.del 0)) ⟨congrArg (Value.int .i64) (by unfold TreeS.place; rw [hlk]), rfl⟩

set_option maxRecDepth 100000 in
set_option maxHeartbeats 1000000 in
theorem Place_nil {w0 w : World} {l : List HProp} (r : Root) (hs : Sat w0 w (l))  :
  Calls Try.prog 31 #[.pointer none, .agg (rootC r).toArray] w (Ret w0 fun v l' => v = .int .i64 (-1) ∧ l' = l) := by
 refine calls_enter Try.func31 rfl rfl rfl hs ?_
 refine cd_sr ?_
 refine oi (os_boxa rfl) ?_; rintro _ _ ⟨bx1, rfl, rfl⟩
 refine oq (op_assign (v := .int _ _) rfl) ?_
 refine ol_nil_then ?_
 refine cd_seq ?_
 refine cd_sr ?_
 refine oq (op_move (v := .pointer _) rfl) ?_
 refine oq (op_eqnil Try.underlying26 rfl rfl) ?_
 refine ol_nil_then ?_
 refine cd_cond_t rfl rfl ?_
 refine cd_sr ?_
 refine oq (op_assign (v := .int _ _) rfl) ?_
 refine ol_nil_then ?_
 refine cd_ret ?_
 refine px_thenR ?_
 exact px_ret1 rfl (v := .int _ _) rfl (fun _ s => (s.del 0)) ⟨rfl, rfl⟩

set_option maxRecDepth 100000 in
set_option maxHeartbeats 1000000 in
theorem Node_calls {w0 w : World} {l : List HProp} (p : Nat) (t : TreeS) (i : Int) (hs : Sat w0 w ((TreeObj p t) :: l))  :
  Calls Try.prog 24 #[.pointer (some ⟨p, 0, none⟩), .int .i64 i] w (Ret w0 fun v l' => v = .tuple #[.agg (nodeC ((t.node i).getD nodeNo)).toArray, .bool (t.node i).isSome] ∧ l' = TreeObj p t :: l) := by
 obtain ⟨a1, c1, b, hw, hs⟩ := hs.treeOpen
 have hm1 := hw.m1; have hm2 := hw.m2; have hle := hw.le; have hne := hw.ne
 refine calls_enter Try.func24 rfl rfl rfl hs ?_
 refine cd_sr ?_
 refine oi (os_alloc (cs := (nodeC Node.zero).toArray) zB_51 (by kernel_rfl)) ?_; rintro _ _ ⟨bx1, rfl, rfl⟩
 refine oq (op_assign (v := .bool _) rfl) ?_
 refine ol_nil_then ?_
 refine cd_seq ?_
 refine cd_sr ?_
 refine oq (op_move (v := .pointer _) rfl) ?_
 refine oq (op_eqnil Try.underlying26 rfl rfl) ?_
 refine oq (op_move (v := .bool _) rfl) ?_
 refine ol_q (wn_some rfl rfl rfl rfl rfl) (op_move (v := .int _ _) rfl) rfl ?_
 refine ol_q (wn_some rfl rfl rfl rfl rfl) (op_lt rfl rfl) rfl ?_
 refine oq (op_pick_f (v := .bool _) rfl rfl rfl) ?_
 refine oq (op_move (v := .bool _) rfl) ?_
 refine ol_split 12 rfl (fun hb1 => ?_) (fun hb1 => ?_)
 ·have hp1 := hb1
  (try simp only [bn] at hp1)
  refine ol_skip (wn_some rfl rfl rfl hb1 rfl) rfl ?_
  refine ol_skip (wn_some rfl rfl rfl hb1 rfl) rfl ?_
  refine ol_skip (wn_some rfl rfl rfl hb1 rfl) rfl ?_
  refine ol_skip (wn_some rfl rfl rfl hb1 rfl) rfl ?_
  refine ol_skip (wn_some rfl rfl rfl hb1 rfl) rfl ?_
  refine ol_skip (wn_some rfl rfl rfl hb1 rfl) rfl ?_
  refine ol_skip (wn_some rfl rfl rfl hb1 rfl) rfl ?_
  refine oq (op_pick_t (v := .bool _) rfl hb1 rfl) ?_
  refine ol_nil_then ?_
  refine cd_cond_t rfl rfl ?_
  refine cd_sr ?_
  refine oq (op_build (L := nodeC _) (vs := [(2, .int _ _)]) bB_51 rfl ⟨⟨rfl, by rw [nodeC_len]; rfl⟩, trivial⟩ ((nodeC_b2 _ _ _).trans rfl)) ?_
  refine oN (os_storew (nodeC _) ag_51 rfl rfl (nodeC_len _) (nodeC_one _) (by simp [nodeC_len]) (Free.zero _)) ?_; rintro _ _ ⟨rfl, rfl⟩
  refine oq (op_assign (v := .bool _) rfl) ?_
  refine ol_nil_then ?_
  refine cd_ret ?_
  refine px_thenR ?_
  have e : t.node i = none := by unfold TreeS.node; first | rw [if_neg (by omega)] | (rw [if_pos (by omega), List.getElem?_eq_none (by omega)])
  rw [e]
  exact px_rv2 rfl (rv_cella 0 ag_51 rfl rfl (nodeC_ta _) (by simp [nodeC_len])) (rv_tmp (v := .bool _) rfl) (fun _ s => Sat.treeMk hw rfl (s.del 0)) ⟨rfl, rfl⟩
 ·have hp1 := hb1
  (try simp only [bn] at hp1)
  refine ol_q (wn_some rfl rfl rfl hb1 rfl) (op_move (v := .int _ _) rfl) rfl ?_
  refine ol_q (wn_some rfl rfl rfl hb1 rfl) (op_move (v := .pointer _) rfl) rfl ?_
  refine ol_q (wn_some rfl rfl rfl hb1 rfl) (op_nilck rfl) rfl ?_
  refine ol_q (wn_some rfl rfl rfl hb1 rfl) (op_field fld_114_0 rfl) rfl ?_
  refine ol_q (wn_some rfl rfl rfl hb1 rfl) (op_ld 1 sc_111 rfl rfl rfl) rfl ?_
  refine ol_q (wn_some rfl rfl rfl hb1 rfl) (op_len_slice Try.underlying111 rfl) rfl ?_
  refine ol_q (wn_some rfl rfl rfl hb1 rfl) (op_ge rfl rfl) rfl ?_
  refine oq (op_pick_f (v := .bool _) rfl hb1 rfl) ?_
  refine ol_nil_then ?_
  refine cd_cond rfl (fun hb2 => ?_) (fun hb2 => ?_)
  ·have hp2 := hb2
   (try simp only [bn] at hp2)
   refine cd_sr ?_
   refine oq (op_build (L := nodeC _) (vs := [(2, .int _ _)]) bB_51 rfl ⟨⟨rfl, by rw [nodeC_len]; rfl⟩, trivial⟩ ((nodeC_b2 _ _ _).trans rfl)) ?_
   refine oN (os_storew (nodeC _) ag_51 rfl rfl (nodeC_len _) (nodeC_one _) (by simp [nodeC_len]) (Free.zero _)) ?_; rintro _ _ ⟨rfl, rfl⟩
   refine oq (op_assign (v := .bool _) rfl) ?_
   refine ol_nil_then ?_
   refine cd_ret ?_
   refine px_thenR ?_
   have e : t.node i = none := by unfold TreeS.node; first | rw [if_neg (by omega)] | (rw [if_pos (by omega), List.getElem?_eq_none (by omega)])
   rw [e]
   exact px_rv2 rfl (rv_cella 0 ag_51 rfl rfl (nodeC_ta _) (by simp [nodeC_len])) (rv_tmp (v := .bool _) rfl) (fun _ s => Sat.treeMk hw rfl (s.del 0)) ⟨rfl, rfl⟩
  ·have hp2 := hb2
   (try simp only [bn] at hp2)
   refine cd_skip ?_
   refine px_then ?_
   refine cd_sr ?_
   refine oq (op_move (v := .pointer _) rfl) ?_
   refine oq (op_nilck rfl) ?_
   refine oq (op_field fld_114_0 rfl) ?_
   refine oq (op_ld 1 sc_111 rfl rfl rfl) ?_
   refine oq (op_move (v := .int _ _) rfl) ?_
   refine oq (op_index _ sB_111 rfl rfl (Int.toNat_of_nonneg (by omega)).symm (rds_row 2 rfl rfl) rfl (by omega)) ?_
   refine oq (op_ldaw (L := nodeC _) ag_51 (rds_row 2 rfl rfl) rfl (by omega) rfl (nodeC_ta _)) ?_
   refine oN (os_storew (nodeC _) ag_51 rfl rfl (nodeC_len _) (nodeC_one _) (by simp [nodeC_len]) (Free.zero _)) ?_; rintro _ _ ⟨rfl, rfl⟩
   refine oq (op_assign (v := .bool _) rfl) ?_
   refine ol_nil_then ?_
   refine cd_ret ?_
   have e : t.node i = some t.nodes[i.toNat] := by unfold TreeS.node; rw [if_pos (by omega), List.getElem?_eq_getElem (by omega)]
   rw [e]
   exact px_rv2 rfl (rv_cella 0 ag_51 rfl rfl (nodeC_ta _) (by simp [nodeC_len])) (rv_tmp (v := .bool _) rfl) (fun _ s => Sat.treeMk hw rfl (s.del 0)) ⟨rfl, rfl⟩

set_option maxRecDepth 100000 in
set_option maxHeartbeats 1000000 in
theorem Node_nil {w0 w : World} {l : List HProp} (i : Int) (hs : Sat w0 w (l))  :
  Calls Try.prog 24 #[.pointer none, .int .i64 i] w (Ret w0 fun v l' => v = .tuple #[.agg (nodeC nodeNo).toArray, .bool false] ∧ l' = l) := by
 refine calls_enter Try.func24 rfl rfl rfl hs ?_
 refine cd_sr ?_
 refine oi (os_alloc (cs := (nodeC Node.zero).toArray) zB_51 (by kernel_rfl)) ?_; rintro _ _ ⟨bx1, rfl, rfl⟩
 refine oq (op_assign (v := .bool _) rfl) ?_
 refine ol_nil_then ?_
 refine cd_seq ?_
 refine cd_sr ?_
 refine oq (op_move (v := .pointer _) rfl) ?_
 refine oq (op_eqnil Try.underlying26 rfl rfl) ?_
 refine oq (op_move (v := .bool _) rfl) ?_
 refine ol_skip (wn_some rfl rfl rfl rfl rfl) rfl ?_
 refine ol_skip (wn_some rfl rfl rfl rfl rfl) rfl ?_
 refine oq (op_pick_t (v := .bool _) rfl rfl rfl) ?_
 refine oq (op_move (v := .bool _) rfl) ?_
 refine ol_skip (wn_some rfl rfl rfl rfl rfl) rfl ?_
 refine ol_skip (wn_some rfl rfl rfl rfl rfl) rfl ?_
 refine ol_skip (wn_some rfl rfl rfl rfl rfl) rfl ?_
 refine ol_skip (wn_some rfl rfl rfl rfl rfl) rfl ?_
 refine ol_skip (wn_some rfl rfl rfl rfl rfl) rfl ?_
 refine ol_skip (wn_some rfl rfl rfl rfl rfl) rfl ?_
 refine ol_skip (wn_some rfl rfl rfl rfl rfl) rfl ?_
 refine oq (op_pick_t (v := .bool _) rfl rfl rfl) ?_
 refine ol_nil_then ?_
 refine cd_cond_t rfl rfl ?_
 refine cd_sr ?_
 refine oq (op_build (L := nodeC _) (vs := [(2, .int _ _)]) bB_51 rfl ⟨⟨rfl, by rw [nodeC_len]; rfl⟩, trivial⟩ ((nodeC_b2 _ _ _).trans rfl)) ?_
 refine oN (os_storew (nodeC _) ag_51 rfl rfl (nodeC_len _) (nodeC_one _) (by simp [nodeC_len]) (Free.zero _)) ?_; rintro _ _ ⟨rfl, rfl⟩
 refine oq (op_assign (v := .bool _) rfl) ?_
 refine ol_nil_then ?_
 refine cd_ret ?_
 refine px_thenR ?_
 exact px_rv2 rfl (rv_cella 0 ag_51 rfl rfl (nodeC_ta _) (by simp [nodeC_len])) (rv_tmp (v := .bool _) rfl) (fun _ s => (s.del 0)) ⟨rfl, rfl⟩

set_option maxRecDepth 100000 in
set_option maxHeartbeats 1000000 in
theorem Len_calls {w0 w : World} {l : List HProp} (p : Nat) (t : TreeS) (hs : Sat w0 w ((TreeObj p t) :: l))  :
  Calls Try.prog 29 #[.pointer (some ⟨p, 0, none⟩)] w (Ret w0 fun v l' => v = .int .i64 t.nodes.length ∧ l' = TreeObj p t :: l) := by
 obtain ⟨a1, c1, b, hw, hs⟩ := hs.treeOpen
 have hm1 := hw.m1; have hm2 := hw.m2; have hle := hw.le; have hne := hw.ne
 refine calls_enter Try.func29 rfl rfl rfl hs ?_
 refine cd_sr ?_
 refine oq (op_assign (v := .int _ _) rfl) ?_
 refine ol_nil_then ?_
 refine cd_seq ?_
 refine cd_sr ?_
 refine oq (op_move (v := .pointer _) rfl) ?_
 refine oq (op_eqnil Try.underlying26 rfl rfl) ?_
 refine ol_nil_then ?_
 refine cd_cond_f rfl rfl ?_
 refine cd_skip ?_
 refine px_then ?_
 refine cd_sr ?_
 refine oq (op_move (v := .pointer _) rfl) ?_
 refine oq (op_nilck rfl) ?_
 refine oq (op_field fld_114_0 rfl) ?_
 refine oq (op_ld 0 sc_111 rfl rfl rfl) ?_
 refine oq (op_len_slice Try.underlying111 rfl) ?_
 refine oq (op_assign (v := .int _ _) rfl) ?_
 refine ol_nil_then ?_
 refine cd_ret ?_
 exact px_ret1 rfl (v := .int _ _) (l' := TreeObj p t :: l) rfl (fun _ s => Sat.treeMk hw rfl s) ⟨rfl, rfl⟩

set_option maxRecDepth 100000 in
set_option maxHeartbeats 1000000 in
theorem Len_nil {w0 w : World} {l : List HProp}  (hs : Sat w0 w (l))  :
  Calls Try.prog 29 #[.pointer none] w (Ret w0 fun v l' => v = .int .i64 0 ∧ l' = l) := by
 refine calls_enter Try.func29 rfl rfl rfl hs ?_
 refine cd_sr ?_
 refine oq (op_assign (v := .int _ _) rfl) ?_
 refine ol_nil_then ?_
 refine cd_seq ?_
 refine cd_sr ?_
 refine oq (op_move (v := .pointer _) rfl) ?_
 refine oq (op_eqnil Try.underlying26 rfl rfl) ?_
 refine ol_nil_then ?_
 refine cd_cond_t rfl rfl ?_
 refine cd_sr ?_
 refine oq (op_assign (v := .int _ _) rfl) ?_
 refine ol_nil_then ?_
 refine cd_ret ?_
 refine px_thenR ?_
 exact px_ret1 rfl (v := .int _ _) rfl (fun _ s => s) ⟨rfl, rfl⟩

set_option maxRecDepth 100000 in
set_option maxHeartbeats 1000000 in
theorem Room_calls {w0 w : World} {l : List HProp} (p : Nat) (t : TreeS) (hs : Sat w0 w ((TreeObj p t) :: l))  :
  Calls Try.prog 21 #[.pointer (some ⟨p, 0, none⟩)] w (Ret w0 fun v l' => v = .int .i64 (t.most - t.nodes.length) ∧ l' = TreeObj p t :: l) := by
 obtain ⟨a1, c1, b, hw, hs⟩ := hs.treeOpen
 have hm1 := hw.m1; have hm2 := hw.m2; have hle := hw.le; have hne := hw.ne
 refine calls_enter Try.func21 rfl rfl rfl hs ?_
 refine cd_sr ?_
 refine oq (op_assign (v := .int _ _) rfl) ?_
 refine ol_nil_then ?_
 refine cd_seq ?_
 refine cd_sr ?_
 refine oq (op_move (v := .pointer _) rfl) ?_
 refine oq (op_eqnil Try.underlying26 rfl rfl) ?_
 refine ol_nil_then ?_
 refine cd_cond_f rfl rfl ?_
 refine cd_skip ?_
 refine px_then ?_
 refine cd_seq ?_
 refine cd_draw (M := []) mx [] (by kernel_rfl) ?_
 refine rg_q (wn_none rfl) (op_move (v := .pointer _) rfl) rfl rfl ?_
 refine rg_q (wn_none rfl) (op_nilck rfl) rfl rfl ?_
 refine rg_q (wn_none rfl) (op_field fld_114_2 rfl) rfl rfl ?_
 refine rg_q (wn_none rfl) (op_ld 0 sc_3 rfl rfl rfl) rfl rfl ?_
 refine rg_q (wn_none rfl) (op_move (v := .pointer _) rfl) rfl rfl ?_
 refine rg_q (wn_none rfl) (op_nilck rfl) rfl rfl ?_
 refine rg_q (wn_none rfl) (op_field fld_114_0 rfl) rfl rfl ?_
 refine rg_q (wn_none rfl) (op_ld 0 sc_111 rfl rfl rfl) rfl rfl ?_
 refine rg_q (wn_none rfl) (op_len_slice Try.underlying111 rfl) rfl rfl ?_
 refine rg_q (wn_none rfl) (op_sub rfl rfl (by omega) (by omega)) rfl rfl ?_
 refine rg_q (wn_none rfl) (op_assign (v := .int _ _) rfl) rfl rfl ?_
 refine rg_nil_then0 ?_
 refine cd_ret ?_
 exact px_ret1 rfl (v := .int _ _) (l' := TreeObj p t :: l) rfl (fun _ s => Sat.treeMk hw rfl s) ⟨rfl, rfl⟩

set_option maxRecDepth 100000 in
set_option maxHeartbeats 1000000 in
theorem Room_nil {w0 w : World} {l : List HProp}  (hs : Sat w0 w (l))  :
  Calls Try.prog 21 #[.pointer none] w (Ret w0 fun v l' => v = .int .i64 0 ∧ l' = l) := by
 refine calls_enter Try.func21 rfl rfl rfl hs ?_
 refine cd_sr ?_
 refine oq (op_assign (v := .int _ _) rfl) ?_
 refine ol_nil_then ?_
 refine cd_seq ?_
 refine cd_sr ?_
 refine oq (op_move (v := .pointer _) rfl) ?_
 refine oq (op_eqnil Try.underlying26 rfl rfl) ?_
 refine ol_nil_then ?_
 refine cd_cond_t rfl rfl ?_
 refine cd_sr ?_
 refine oq (op_assign (v := .int _ _) rfl) ?_
 refine ol_nil_then ?_
 refine cd_ret ?_
 refine px_thenR ?_
 exact px_ret1 rfl (v := .int _ _) rfl (fun _ s => s) ⟨rfl, rfl⟩

set_option maxRecDepth 100000 in
set_option maxHeartbeats 1000000 in
theorem Add_calls {w0 w : World} {l : List HProp} (p : Nat) (t : TreeS) (r q : Root) (slot : Int) (hs : Sat w0 w ((TreeObj p t) :: l))  :
  Calls Try.prog 47 #[.pointer (some ⟨p, 0, none⟩), .agg (rootC r).toArray, .agg (rootC q).toArray, .int .i64 slot] w (Ret w0 fun v l' => v = .int .i64 (t.add r q slot).1 ∧ l' = TreeObj p (t.add r q slot).2 :: l) := by
 have hw := hs.treeWF; have hwf2 := hw.add r q slot
 have hm1 := hw.m1; have hm2 := hw.m2; have hle := hw.le; have hne := hw.ne
 refine calls_enter Try.func47 rfl rfl rfl hs ?_
 refine cd_sr ?_
 refine oi (os_boxa rfl) ?_; rintro _ _ ⟨bx1, rfl, rfl⟩
 refine oi (os_boxa rfl) ?_; rintro _ _ ⟨bx2, rfl, rfl⟩
 refine oq (op_assign (v := .int _ _) rfl) ?_
 refine ol_nil_then ?_
 refine cd_sr ?_
 refine oq (op_move (v := .pointer _) rfl) ?_
 refine oq (op_move (v := .pointer _) rfl) ?_
 refine oq (op_lda (L := rootC _) 0 ag_24 rfl rfl (rootC_take' _) (by simp [rootC_len])) ?_
 refine ol_pull2 ?_
 refine oi (os_call cb_31 rfl (fun w s => Place_calls _ _ _  s )) ?_; rintro _ _ ⟨rfl, rfl⟩
 refine oi (os_call cb_24 rfl (fun w s => Node_calls _ _ _  s )) ?_; rintro _ _ ⟨rfl, rfl⟩
 refine oq (op_move (v := .tuple _) rfl) ?_
 refine oq (op_extract (v := .agg _) rfl rfl) ?_
 refine oq (op_extract (v := .bool _) rfl rfl) ?_
 refine oi (os_alloc (cs := (nodeC Node.zero).toArray) zB_51 (by kernel_rfl)) ?_; rintro _ _ ⟨bx3, rfl, rfl⟩
 refine oN (os_storew (nodeC _) ag_51 rfl rfl (nodeC_len _) (nodeC_one _) (by simp [nodeC_len]) (Free.zero _)) ?_; rintro _ _ ⟨rfl, rfl⟩
 refine oq (op_assign (v := .bool _) rfl) ?_
 refine ol_nil_then ?_
 refine cd_seq ?_
 refine cd_block ?_
 refine cd_sr ?_
 refine oq (op_move (v := .pointer _) rfl) ?_
 refine oq (op_eqnil Try.underlying26 rfl rfl) ?_
 refine oq (op_assign (v := .bool _) rfl) ?_
 refine ol_nil_then ?_
 refine cd_cond_f rfl rfl ?_
 refine cd_sr ?_
 refine oq (op_move (v := .pointer _) rfl) ?_
 refine oq (op_lda (L := rootC _) 3 ag_24 rfl rfl (rootC_take' _) (by simp [rootC_len])) ?_
 refine ol_pull1 ?_
 refine oi (os_call cb_31 rfl (fun w s => Place_calls _ _ _  s )) ?_; rintro _ _ ⟨rfl, rfl⟩
 refine oq (op_ge rfl rfl) ?_
 refine oq (op_assign (v := .bool _) rfl) ?_
 refine ol_nil_then ?_
 refine cd_cond rfl (fun hb1 => ?_) (fun hb1 => ?_)
 ·have hp1 := hb1
  (try simp only [bn] at hp1)
  have hr1 : (idxOf t.nodes r).isSome = true := TreeS.place_iff.1 (of_decide_eq_true hb1)
  refine cd_sr ?_
  refine oq (op_assign (v := .int _ _) rfl) ?_
  refine ol_nil_then ?_
  refine cd_ret ?_
  refine px_blockR ?_
  refine px_thenR ?_
  have e : t.add r q slot = (4, t) := by unfold TreeS.add; rw [if_pos hr1]
  rw [e]
  exact px_ret1 rfl (v := .int _ _) (l' := TreeObj p t :: l) rfl (fun _ s => (((s.del 3).del 2).del 1)) ⟨rfl, rfl⟩
 ·have hp1 := hb1
  (try simp only [bn] at hp1)
  have hr1 : ¬ (idxOf t.nodes r).isSome = true := fun h => absurd (TreeS.place_iff.2 h) (of_decide_eq_false hb1)
  have hr0 : idxOf t.nodes r = none := by cases e : idxOf t.nodes r <;> simp_all
  refine cd_sr ?_
  refine oq (op_move (v := .bool _) rfl) ?_
  refine oq (op_not rfl) ?_
  refine oq (op_move (v := .bool _) rfl) ?_
  refine ol_split 30 rfl (fun hb2 => ?_) (fun hb2 => ?_)
  ·have hp2 := hb2
   (try simp only [bn] at hp2)
   have hq0 := TreeS.node_place_none (by simpa using hb2)
   have hcase : (match idxOf t.nodes q with | none => (5, t) | some j => if slot ≤ ((t.nodes[j]?).getD nodeNo).slot ∨ 1073741824 < slot then (5, t) else if t.most ≤ t.nodes.length then (6, t) else (0, { t with nodes := t.nodes ++ [⟨r, slot, (j : Int)⟩] })) = ((5 : Int), t) := by rw [hq0]
   refine ol_skip (wn_some rfl rfl rfl hb2 rfl) rfl ?_
   refine ol_skip (wn_some rfl rfl rfl hb2 rfl) rfl ?_
   refine ol_skip (wn_some rfl rfl rfl hb2 rfl) rfl ?_
   refine ol_skip (wn_some rfl rfl rfl hb2 rfl) rfl ?_
   refine oq (op_pick_t (v := .bool _) rfl hb2 rfl) ?_
   refine oq (op_move (v := .bool _) rfl) ?_
   refine ol_skip (wn_some rfl rfl rfl rfl rfl) rfl ?_
   refine ol_skip (wn_some rfl rfl rfl rfl rfl) rfl ?_
   refine oq (op_pick_t (v := .bool _) rfl rfl rfl) ?_
   refine oq (op_assign (v := .bool _) rfl) ?_
   refine ol_nil_then ?_
   refine cd_cond_t rfl rfl ?_
   refine cd_sr ?_
   refine oq (op_assign (v := .int _ _) rfl) ?_
   refine ol_nil_then ?_
   refine cd_ret ?_
   refine px_blockR ?_
   refine px_thenR ?_
   have e : t.add r q slot = (5, t) := by unfold TreeS.add; rw [if_neg hr1]; exact hcase
   rw [e]
   exact px_ret1 rfl (v := .int _ _) (l' := TreeObj p t :: l) rfl (fun _ s => (((s.del 3).del 2).del 1)) ⟨rfl, rfl⟩
  ·have hp2 := hb2
   (try simp only [bn] at hp2)
   obtain ⟨j, m0, hqj, hm0, hnode⟩ := TreeS.node_place_some (t := t) (r := q) (by simpa using hb2)
   have hgs : ((t.node (t.place q)).getD nodeNo).slot = m0.slot := by rw [hnode]; rfl
   have hmsl := hw.sl m0 (List.mem_of_getElem? hm0)
   refine ol_q (wn_some rfl rfl rfl hb2 rfl) (op_field fld_51_1 rfl) rfl ?_
   refine ol_q (wn_some rfl rfl rfl hb2 rfl) (op_ld 1 sc_3 rfl rfl (nodeC_a32 _)) rfl ?_
   refine ol_q (wn_some rfl rfl rfl hb2 rfl) (op_move (v := .int _ _) rfl) rfl ?_
   refine ol_q (wn_some rfl rfl rfl hb2 rfl) (op_ge rfl rfl) rfl ?_
   refine oq (op_pick_f (v := .bool _) rfl hb2 rfl) ?_
   refine oq (op_move (v := .bool _) rfl) ?_
   refine ol_split 36 rfl (fun hb3 => ?_) (fun hb3 => ?_)
   ·have hp3 := hb3
    (try simp only [bn] at hp3)
    have hcase : (match idxOf t.nodes q with | none => (5, t) | some j => if slot ≤ ((t.nodes[j]?).getD nodeNo).slot ∨ 1073741824 < slot then (5, t) else if t.most ≤ t.nodes.length then (6, t) else (0, { t with nodes := t.nodes ++ [⟨r, slot, (j : Int)⟩] })) = ((5 : Int), t) := by rw [hqj]; simp only [hm0, Option.getD_some]; rw [if_pos (.inl (by rw [← hgs]; exact of_decide_eq_true hb3))]
    refine ol_skip (wn_some rfl rfl rfl hb3 rfl) rfl ?_
    refine ol_skip (wn_some rfl rfl rfl hb3 rfl) rfl ?_
    refine oq (op_pick_t (v := .bool _) rfl hb3 rfl) ?_
    refine oq (op_assign (v := .bool _) rfl) ?_
    refine ol_nil_then ?_
    refine cd_cond_t rfl rfl ?_
    refine cd_sr ?_
    refine oq (op_assign (v := .int _ _) rfl) ?_
    refine ol_nil_then ?_
    refine cd_ret ?_
    refine px_blockR ?_
    refine px_thenR ?_
    have e : t.add r q slot = (5, t) := by unfold TreeS.add; rw [if_neg hr1]; exact hcase
    rw [e]
    exact px_ret1 rfl (v := .int _ _) (l' := TreeObj p t :: l) rfl (fun _ s => (((s.del 3).del 2).del 1)) ⟨rfl, rfl⟩
   ·have hp3 := hb3
    (try simp only [bn] at hp3)
    refine ol_q (wn_some rfl rfl rfl hb3 rfl) (op_move (v := .int _ _) rfl) rfl ?_
    refine ol_q (wn_some rfl rfl rfl hb3 rfl) (op_gt rfl rfl) rfl ?_
    refine oq (op_pick_f (v := .bool _) rfl hb3 rfl) ?_
    refine oq (op_assign (v := .bool _) rfl) ?_
    refine ol_nil_then ?_
    refine cd_cond rfl (fun hb4 => ?_) (fun hb4 => ?_)
    ·have hp4 := hb4
     (try simp only [bn] at hp4)
     have hcase : (match idxOf t.nodes q with | none => (5, t) | some j => if slot ≤ ((t.nodes[j]?).getD nodeNo).slot ∨ 1073741824 < slot then (5, t) else if t.most ≤ t.nodes.length then (6, t) else (0, { t with nodes := t.nodes ++ [⟨r, slot, (j : Int)⟩] })) = ((5 : Int), t) := by rw [hqj]; simp only [hm0, Option.getD_some]; rw [if_pos (.inr (of_decide_eq_true hb4))]
     refine cd_sr ?_
     refine oq (op_assign (v := .int _ _) rfl) ?_
     refine ol_nil_then ?_
     refine cd_ret ?_
     refine px_blockR ?_
     refine px_thenR ?_
     have e : t.add r q slot = (5, t) := by unfold TreeS.add; rw [if_neg hr1]; exact hcase
     rw [e]
     exact px_ret1 rfl (v := .int _ _) (l' := TreeObj p t :: l) rfl (fun _ s => (((s.del 3).del 2).del 1)) ⟨rfl, rfl⟩
    ·have hp4 := hb4
     (try simp only [bn] at hp4)
     have hsl : ¬ (slot ≤ m0.slot ∨ 1073741824 < slot) := by rw [← hgs]; omega
     refine cd_sr ?_
     refine oq (op_move (v := .pointer _) rfl) ?_
     refine oi (os_call cb_21 rfl (fun w s => Room_calls _ _  s )) ?_; rintro _ _ ⟨rfl, rfl⟩
     refine oq (op_le rfl rfl) ?_
     refine oq (op_assign (v := .bool _) rfl) ?_
     refine ol_nil_then ?_
     refine cd_cond rfl (fun hb5 => ?_) (fun hb5 => ?_)
     ·have hp5 := hb5
      (try simp only [bn] at hp5)
      have hcase := hqj
      refine cd_sr ?_
      refine oq (op_assign (v := .int _ _) rfl) ?_
      refine ol_nil_then ?_
      refine cd_ret ?_
      refine px_blockR ?_
      refine px_thenR ?_
      have e : t.add r q slot = (6, t) := by unfold TreeS.add; rw [if_neg hr1, hcase]; simp only [hm0, Option.getD_some]; rw [if_neg hsl, if_pos (by omega)]
      rw [e]
      exact px_ret1 rfl (v := .int _ _) (l' := TreeObj p t :: l) rfl (fun _ s => (((s.del 3).del 2).del 1)) ⟨rfl, rfl⟩
     ·have hp5 := hb5
      (try simp only [bn] at hp5)
      have hadd : t.add r q slot = (0, { t with nodes := t.nodes ++ [⟨r, slot, (j : Int)⟩] }) := by unfold TreeS.add; rw [if_neg hr1, hqj]; simp only [hm0, Option.getD_some]; rw [if_neg hsl, if_neg (by omega)]
      have hins := ins_at (ns := t.nodes) (x := ⟨r, slot, (j : Int)⟩) hr0
      have hjl := idxOf_lt hqj
      refine cd_skip ?_
      refine px_blockN ?_
      refine px_then ?_
      refine cd_treeOpen ?_; intro a1 c1 b _
      refine cd_seq ?_
      refine cd_drawt (M := []) mx [] 10 (by kernel_rfl) rfl rfl ?_
      dsimp only [List.take_succ_cons, List.take_zero, List.drop_succ_cons, List.drop_zero]
      refine rg_q (wn_none rfl) (op_move (v := .pointer _) rfl) rfl rfl ?_
      refine rg_q (wn_none rfl) (op_nilck rfl) rfl rfl ?_
      refine rg_q (wn_none rfl) (op_field fld_114_1 rfl) rfl rfl ?_
      refine rg_q (wn_none rfl) (op_ld 0 sc_112 rfl rfl rfl) rfl rfl ?_
      refine rg_q (wn_none rfl) (op_lda (L := rootC _) 5 ag_24 rfl rfl (rootC_take' _) (by simp [rootC_len])) rfl rfl ?_
      refine rg_q (wn_none rfl) (op_move (v := .pointer _) rfl) rfl rfl ?_
      refine rg_q (wn_none rfl) (op_nilck rfl) rfl rfl ?_
      refine rg_q (wn_none rfl) (op_field fld_114_0 rfl) rfl rfl ?_
      refine rg_q (wn_none rfl) (op_ld 0 sc_111 rfl rfl rfl) rfl rfl ?_
      refine rg_q (wn_none rfl) (op_len_slice Try.underlying111 rfl) rfl rfl ?_
      refine rg_tail0 ?_
      refine ol_pull2 ?_
      refine oN (os_mapUpdate r (t.nodes.length : Int) Try.underlying112 (keyok_tree hw r) rfl rfl rfl) ?_; rintro _ _ ⟨rfl, rfl⟩; rw [hins]
      refine ol_nil_then ?_
      refine cd_pull2 ?_
      refine cd_seq ?_
      refine cd_drawt (M := [_]) mx [14, 15] 16 (by kernel_rfl) rfl rfl ?_
      dsimp only [List.take_succ_cons, List.take_zero, List.drop_succ_cons, List.drop_zero]
      refine rg_q (wn_none rfl) (op_move (v := .pointer _) rfl) rfl rfl ?_
      refine rg_q (wn_none rfl) (op_move (v := .pointer _) rfl) rfl rfl ?_
      refine rg_q (wn_none rfl) (op_nilck rfl) rfl rfl ?_
      refine rg_q (wn_none rfl) (op_field fld_114_0 rfl) rfl rfl ?_
      refine rg_q (wn_none rfl) (op_ld 1 sc_111 rfl rfl rfl) rfl rfl ?_
      refine rg_q (wn_none rfl) (op_lda (L := rootC _) 4 ag_24 rfl rfl (rootC_take' _) (by simp [rootC_len])) rfl rfl ?_
      refine rg_q (wn_none rfl) (op_move (v := .int _ _) rfl) rfl rfl ?_
      refine rg_q (wn_none rfl) (op_move (v := .pointer _) rfl) rfl rfl ?_
      refine rg_q (wn_none rfl) (op_nilck rfl) rfl rfl ?_
      refine rg_q (wn_none rfl) (op_field fld_114_1 rfl) rfl rfl ?_
      refine rg_q (wn_none rfl) (op_ld 1 sc_112 rfl rfl rfl) rfl rfl ?_
      refine rg_q (wn_none rfl) (op_lda (L := rootC _) 3 ag_24 rfl rfl (rootC_take' _) (by simp [rootC_len])) rfl rfl ?_
      refine rg_q (wn_none rfl) (op_lookup1S 0 q Try.underlying112 zB_3 (keyokR keyed_root rk_24 q (by rw [atOf_keys]; rw [hadd] at hwf2; exact hwf2.nd)) (v := (j : Int)) (by rw [look_at_, idxOf_append, hqj]; rfl) rfl rfl rfl) rfl rfl ?_
      refine rg_q (wn_none rfl) (op_build (L := nodeC _) (vs := [(0, .agg (rootC _).toArray), (1, .int _ _), (2, .int _ _)]) bB_51 rfl ⟨⟨by simp [Value.cells, rootC_len], by rw [nodeC_len]; rfl⟩, ⟨rfl, by rw [nodeC_len]; rfl⟩, ⟨rfl, by rw [nodeC_len]; rfl⟩, trivial⟩ ((nodeC_b0 _ _ _).trans ((nodeC_b1 _ _ _).trans ((nodeC_b2 _ _ _).trans rfl)))) rfl rfl ?_
      refine rg_i (wn_none rfl) (os_bslice (E := encNode) [_] (ys := [_]) sB_111 zv_51 rfl rfl rfl rfl (by decide)) rfl rfl ?_; rintro _ _ ⟨ao1, rfl, rfl⟩; refine ⟨[_, _], rfl, ?_⟩
      refine rg_i (wn_none rfl) (os_pull1 (os_append (E := encNode) rfl sB_111 zv_51 rfl rfl rfl (fun w s => (rds_row 1 rfl rfl) [] w s) rfl (by simp; omega) (by unfold maxLen; simp; omega))) rfl rfl ?_; rintro _ _ ⟨ao2, ac2, rfl, rfl⟩; refine ⟨[_, _], rfl, ?_⟩
      refine rg_tail2 ?_
      refine oq (op_nilck rfl) ?_
      refine oq (op_field fld_114_0 rfl) ?_
      refine ol_pull3 ?_
      refine oN (os_store (v := .slice _ _ _) sc_111 rfl rfl rfl rfl (Free.zero _) rfl) ?_; rintro _ _ ⟨rfl, rfl⟩
      refine ol_nil_then ?_
      refine cd_sr ?_
      refine oq (op_assign (v := .int _ _) rfl) ?_
      refine ol_nil_then ?_
      refine cd_ret ?_
      rw [hadd] at hwf2 ⊢
      exact px_ret1 rfl (v := .int _ _) (l' := TreeObj p { t with nodes := t.nodes ++ [⟨r, slot, (j : Int)⟩] } :: l) rfl (fun _ s => Sat.treeMk (t := { t with nodes := t.nodes ++ [⟨r, slot, (j : Int)⟩] }) hwf2 (by simp) ((((s.del 6).del 5).del 4).del 2)) ⟨rfl, rfl⟩

set_option maxRecDepth 100000 in
set_option maxHeartbeats 1000000 in
theorem Add_nil {w0 w : World} {l : List HProp} (r q : Root) (slot : Int) (hs : Sat w0 w (l))  :
  Calls Try.prog 47 #[.pointer none, .agg (rootC r).toArray, .agg (rootC q).toArray, .int .i64 slot] w (Ret w0 fun v l' => v = .int .i64 2 ∧ l' = l) := by
 refine calls_enter Try.func47 rfl rfl rfl hs ?_
 refine cd_sr ?_
 refine oi (os_boxa rfl) ?_; rintro _ _ ⟨bx1, rfl, rfl⟩
 refine oi (os_boxa rfl) ?_; rintro _ _ ⟨bx2, rfl, rfl⟩
 refine oq (op_assign (v := .int _ _) rfl) ?_
 refine ol_nil_then ?_
 refine cd_sr ?_
 refine oq (op_move (v := .pointer _) rfl) ?_
 refine oq (op_move (v := .pointer _) rfl) ?_
 refine oq (op_lda (L := rootC _) 0 ag_24 rfl rfl (rootC_take' _) (by simp [rootC_len])) ?_
 refine oi (os_call cb_31 rfl (fun w s => Place_nil _  s )) ?_; rintro _ l ⟨rfl, rfl⟩
 refine oi (os_call cb_24 rfl (fun w s => Node_nil _  s )) ?_; rintro _ l ⟨rfl, rfl⟩
 refine oq (op_move (v := .tuple _) rfl) ?_
 refine oq (op_extract (v := .agg _) rfl rfl) ?_
 refine oq (op_extract (v := .bool _) rfl rfl) ?_
 refine oi (os_alloc (cs := (nodeC Node.zero).toArray) zB_51 (by kernel_rfl)) ?_; rintro _ _ ⟨bx3, rfl, rfl⟩
 refine oN (os_storew (nodeC _) ag_51 rfl rfl (nodeC_len _) (nodeC_one _) (by simp [nodeC_len]) (Free.zero _)) ?_; rintro _ _ ⟨rfl, rfl⟩
 refine oq (op_assign (v := .bool _) rfl) ?_
 refine ol_nil_then ?_
 refine cd_seq ?_
 refine cd_block ?_
 refine cd_sr ?_
 refine oq (op_move (v := .pointer _) rfl) ?_
 refine oq (op_eqnil Try.underlying26 rfl rfl) ?_
 refine oq (op_assign (v := .bool _) rfl) ?_
 refine ol_nil_then ?_
 refine cd_cond_t rfl rfl ?_
 refine cd_sr ?_
 refine oq (op_assign (v := .int _ _) rfl) ?_
 refine ol_nil_then ?_
 refine cd_ret ?_
 refine px_blockR ?_
 refine px_thenR ?_
 exact px_ret1 rfl (v := .int _ _) rfl (fun _ s => (((s.del 2).del 1).del 0)) ⟨rfl, rfl⟩

set_option maxRecDepth 100000 in
set_option maxHeartbeats 1000000 in
theorem Below_calls {w0 w : World} {l : List HProp} (p : Nat) (t : TreeS) (o r : Root) (hs : Sat w0 w ((TreeObj p t) :: l))  :
  Calls Try.prog 30 #[.pointer (some ⟨p, 0, none⟩), .agg (rootC o).toArray, .agg (rootC r).toArray] w (Ret w0 fun v l' => v = .bool (t.below o r) ∧ l' = TreeObj p t :: l) := by
 have hw := hs.treeWF; have hbe := t.below_eq o r
 refine calls_enter Try.func30 rfl rfl rfl hs ?_
 refine cd_sr ?_
 refine oi (os_boxa rfl) ?_; rintro _ _ ⟨bx1, rfl, rfl⟩
 refine oi (os_boxa rfl) ?_; rintro _ _ ⟨bx2, rfl, rfl⟩
 refine oq (op_assign (v := .bool _) rfl) ?_
 refine ol_nil_then ?_
 refine cd_sr ?_
 refine oq (op_move (v := .pointer _) rfl) ?_
 refine oq (op_lda (L := rootC _) 1 ag_24 rfl rfl (rootC_take' _) (by simp [rootC_len])) ?_
 refine ol_pull2 ?_
 refine oi (os_call cb_31 rfl (fun w s => Place_calls _ _ _  s )) ?_; rintro _ _ ⟨rfl, rfl⟩
 refine oq (op_assign (v := .int _ _) rfl) ?_
 refine ol_nil_then ?_
 refine cd_seq ?_
 refine cd_sr ?_
 refine oq (op_move (v := .int _ _) rfl) ?_
 refine oq (op_lt rfl rfl) ?_
 refine ol_nil_then ?_
 refine cd_cond rfl (fun hb1 => ?_) (fun hb1 => ?_)
 ·have hp1 := hb1
  (try simp only [bn] at hp1)
  have ho0 := TreeS.place_none (by omega)
  rw [ho0] at hbe
  refine cd_sr ?_
  refine oq (op_assign (v := .bool _) rfl) ?_
  refine ol_nil_then ?_
  refine cd_ret ?_
  refine px_thenR ?_
  exact px_ret1 rfl (v := .bool _) (l' := TreeObj p t :: l) rfl (fun _ s => ((s.del 2).del 1)) ⟨congrArg Value.bool hbe.symm, rfl⟩
 ·have hp1 := hb1
  (try simp only [bn] at hp1)
  obtain ⟨a0, ho0, hop⟩ := TreeS.place_some (t := t) (r := o) (by omega)
  rw [ho0] at hbe; dsimp only at hbe
  have hrl := t.place_lt r
  refine cd_skip ?_
  refine px_then ?_
  refine cd_seq ?_
  refine cd_sr ?_
  refine oq (op_move (v := .pointer _) rfl) ?_
  refine oq (op_lda (L := rootC _) 1 ag_24 rfl rfl (rootC_take' _) (by simp [rootC_len])) ?_
  refine oi (os_call cb_31 rfl (fun w s => Place_calls _ _ _  s )) ?_; rintro _ _ ⟨rfl, rfl⟩
  refine oq (op_assign (v := .int _ _) rfl) ?_
  refine ol_nil_then ?_
  refine cd_block ?_
  refine cd_treeOpen ?_; intro a1 c1 b _
  refine cd_loop2 (α := Int) [(6, 6), (8, 8), (17, 30)] (fun x => [(8, .int .i64 x)]) (fun _ => _) (fun x => -1 ≤ x ∧ x < t.nodes.length ∧ t.below o r = belI t.nodes a0 x) (fun x => (x + 1).toNat) (t.place r) ⟨by unfold TreeS.place; split <;> omega, hrl, hbe⟩ ⟨rfl, trivial⟩ (fun _ s => s) ?_
  rintro i ⟨hi1, hi2, hbe⟩ f; (try dsimp only at hi1 hi2 hbe ⊢)
  refine cd_seq ?_
  refine cd_sr ?_
  refine oq (op_move (v := .int _ _) rfl) ?_
  refine oq (op_move (v := .int _ _) rfl) ?_
  refine oq (op_ge rfl rfl) ?_
  refine ol_nil_then ?_
  refine cd_cond rfl (fun hb2 => ?_) (fun hb2 => ?_)
  ·have hp2 := hb2
   (try simp only [bn] at hp2)
   refine cd_skip ?_
   refine px_then ?_
   refine cd_seq ?_
   refine cd_block ?_
   refine cd_sr ?_
   refine oq (op_move (v := .int _ _) rfl) ?_
   refine oq (op_move (v := .int _ _) rfl) ?_
   refine oq (op_eq rfl rfl) ?_
   refine ol_nil_then ?_
   refine cd_cond rfl (fun hb3 => ?_) (fun hb3 => ?_)
   ·have hp3 := hb3
    (try simp only [bn] at hp3)
    have hia : i = a0 := by omega
    subst hia
    rw [belI_eq] at hbe
    refine cd_sr ?_
    refine oq (op_assign (v := .bool _) rfl) ?_
    refine ol_nil_then ?_
    refine cd_ret ?_
    refine px_blockR ?_
    refine px_thenR ?_
    refine px_thenR ?_
    refine px_blockR ?_
    refine px_thenR ?_
    exact px_ret1 rfl (v := .bool _) (l' := TreeObj p t :: l) rfl (fun _ s => Sat.treeMk hw rfl ((s.del 4).del 3)) ⟨congrArg Value.bool hbe.symm, rfl⟩
   ·have hp3 := hb3
    (try simp only [bn] at hp3)
    obtain ⟨i0, rfl⟩ : ∃ i0 : Nat, i = i0 := ⟨i.toNat, by omega⟩
    have hgi : t.nodes[i0]? = some t.nodes[i0] := List.getElem?_eq_getElem (by omega)
    have hup := belI_up hw.pa hgi (a := a0) (by omega)
    have hpr := hw.par_rg hgi
    refine cd_skip ?_
    refine px_blockN ?_
    refine px_then ?_
    refine cd_region ?_
    refine oq (op_move (v := .pointer _) rfl) ?_
    refine oq (op_nilck rfl) ?_
    refine oq (op_field fld_114_0 rfl) ?_
    refine oq (op_ld 0 sc_111 rfl rfl rfl) ?_
    refine oq (op_move (v := .int _ _) rfl) ?_
    refine oq (op_index i0 sB_111 rfl rfl rfl (rds_row 1 rfl rfl) rfl (by omega)) ?_
    refine oq (op_fielde fld_51_2 rfl (rds_row 1 rfl rfl) (by omega)) ?_
    refine oq (op_ldf 33 sc_3 (rds_row 1 rfl rfl) rfl (by omega) rfl (nodeC_l33 _)) ?_
    refine oq (op_assign (v := .int _ _) rfl) ?_
    refine ol_nil ?_
    refine px_loop2 (t.nodes[i0].parent) ⟨by omega, by omega, hbe.trans hup⟩ (by (try dsimp only); omega) ⟨rfl, trivial⟩ ?_ (fun _ s => s)
    repeat (first | exact kept_over | refine kept_upd rfl ?_ | refine kept_overS (by decide) ?_)
  ·have hp2 := hb2
   (try simp only [bn] at hp2)
   refine cd_exit ?_
   refine px_thenE ?_
   refine px_thenE ?_
   refine px_blockE ?_
   refine px_then ?_
   refine cd_sr ?_
   refine oq (op_assign (v := .bool _) rfl) ?_
   refine ol_nil_then ?_
   refine cd_ret ?_
   exact px_ret1 rfl (v := .bool _) (l' := TreeObj p t :: l) rfl (fun _ s => Sat.treeMk hw rfl ((s.del 4).del 3)) ⟨congrArg Value.bool (hbe.trans (belI_low (by omega))).symm, rfl⟩

set_option maxRecDepth 100000 in
set_option maxHeartbeats 1000000 in
theorem Below_nil {w0 w : World} {l : List HProp} (o r : Root) (hs : Sat w0 w (l))  :
  Calls Try.prog 30 #[.pointer none, .agg (rootC o).toArray, .agg (rootC r).toArray] w (Ret w0 fun v l' => v = .bool false ∧ l' = l) := by
 refine calls_enter Try.func30 rfl rfl rfl hs ?_
 refine cd_sr ?_
 refine oi (os_boxa rfl) ?_; rintro _ _ ⟨bx1, rfl, rfl⟩
 refine oi (os_boxa rfl) ?_; rintro _ _ ⟨bx2, rfl, rfl⟩
 refine oq (op_assign (v := .bool _) rfl) ?_
 refine ol_nil_then ?_
 refine cd_sr ?_
 refine oq (op_move (v := .pointer _) rfl) ?_
 refine oq (op_lda (L := rootC _) 1 ag_24 rfl rfl (rootC_take' _) (by simp [rootC_len])) ?_
 refine oi (os_call cb_31 rfl (fun w s => Place_nil _  s )) ?_; rintro _ l ⟨rfl, rfl⟩
 refine oq (op_assign (v := .int _ _) rfl) ?_
 refine ol_nil_then ?_
 refine cd_seq ?_
 refine cd_sr ?_
 refine oq (op_move (v := .int _ _) rfl) ?_
 refine oq (op_lt rfl rfl) ?_
 refine ol_nil_then ?_
 refine cd_cond rfl (fun hb1 => ?_) (fun hb1 => ?_)
 ·have hp1 := hb1
  (try simp only [bn] at hp1)
  refine cd_sr ?_
  refine oq (op_assign (v := .bool _) rfl) ?_
  refine ol_nil_then ?_
  refine cd_ret ?_
  refine px_thenR ?_
  exact px_ret1 rfl (v := .bool _) rfl (fun _ s => ((s.del 1).del 0)) ⟨rfl, rfl⟩
 ·have hp1 := hb1
  (try simp only [bn] at hp1)
  exact absurd hb1 (by decide)
end Go.SL

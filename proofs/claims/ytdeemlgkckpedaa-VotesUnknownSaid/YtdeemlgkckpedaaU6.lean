import Derived.Test.YtdeemlgkckpedaaU5
set_option linter.unusedVariables false
set_option linter.unusedSimpArgs false
namespace Go.SL
open Go.Proofs

def VoteObj (q : Nat) (v : Vote) : HProp := Blk q (.cells (voteC v).toArray 84 (0, 0))
theorem laidOut : laidOutB Try.prog = true := by kernel_rfl
theorem keyed_mark : Go.Maps.Keyed Try.prog 157 := Go.Maps.Keyed.of_law (deep_law_laid laidOut (m := 3) (by omega) (show 157 < Try.prog.types.size from Nat.le_of_ble_eq_true (by kernel_rfl)) (by kernel_rfl) (by kernel_rfl))
def TabParts (p : Nat) (t : TabS) (a1 : Option Addr) (c1 : Nat) (a2 : Option Addr) (c2 : Nat) (b : Nat) (ps : List (Option Addr)) : List HProp :=
 [Blk p (.cells #[.int .i64 t.slots, .slice a1 ps.length c1, .slice a2 t.out.length c2, .map (some b)] 136 (0, 0)), Row 137 encPtr (.slice a1 ps.length c1) ps, Row 4 encBool (.slice a2 t.out.length c2) t.out, MapO EK2 EVR b t.first, PtrsO VoteObj ps t.latest]
/-- a table: all that it owns -/
def TabObj (p : Nat) (t : TabS) : HProp := ex fun x : Option Addr × Nat × Option Addr × Nat × Nat × List (Option Addr) => stars (pr t.WF :: TabParts p t x.1 x.2.1 x.2.2.1 x.2.2.2.1 x.2.2.2.2.1 x.2.2.2.2.2)
theorem Sat.tabOpen {w0 w : World} {l : List HProp} {p : Nat} {t : TabS} (s : Sat w0 w (TabObj p t :: l)) : ∃ a1 c1 a2 c2 b ps, t.WF ∧ ps.length = t.latest.length ∧ Sat w0 w (TabParts p t a1 c1 a2 c2 b ps ++ l) := by
 obtain ⟨⟨a1, c1, a2, c2, b, ps⟩, s⟩ := Sat.ex_iff.1 s
 have s1 := Sat.stars_iff.1 s
 obtain ⟨hw, s2⟩ := Sat.pr_iff.1 s1
 exact ⟨a1, c1, a2, c2, b, ps, hw, (s2.pull 4).ptrs_len, s2⟩
theorem Sat.tabMk {w0 w : World} {l : List HProp} {p : Nat} {t : TabS} {a1 : Option Addr} {c1 : Nat} {a2 : Option Addr} {c2 : Nat} {b : Nat} {ps : List (Option Addr)} {m1 m2 : Nat} (hw : t.WF) (h1 : m1 = ps.length) (h2 : m2 = t.out.length)
  (s : Sat w0 w (Blk p (.cells #[.int .i64 t.slots, .slice a1 m1 c1, .slice a2 m2 c2, .map (some b)] 136 (0, 0)) :: Row 137 encPtr (.slice a1 m1 c1) ps :: Row 4 encBool (.slice a2 m2 c2) t.out :: MapO EK2 EVR b t.first :: PtrsO VoteObj ps t.latest :: l)) : Sat w0 w (TabObj p t :: l) := by
 subst h1 h2
 exact Sat.ex_iff.2 ⟨(a1, c1, a2, c2, b, ps), Sat.stars_iff.2 (Sat.pr_iff.2 ⟨hw, s⟩)⟩
theorem Sat.tabWF {w0 w : World} {l : List HProp} {p : Nat} {t : TabS} (s : Sat w0 w (TabObj p t :: l)) : t.WF := let ⟨_, _, _, _, _, _, h, _⟩ := s.tabOpen; h
theorem keyok_tab {t : TabS} (hw : t.WF) {a e : Int} (ha : 0 ≤ a ∧ a < 64) (he : 0 ≤ e ∧ e ≤ 1073741824) : KeyOK Try.prog 157 EK2 t.first (a, e) :=
 keyok2 keyed_mark mk2_157 _ (by unfold I64; omega) (by unfold I64; omega) (fun p hp => by have := hw.rg p hp; unfold I64; omega) hw.nd

set_option maxRecDepth 100000 in
set_option maxHeartbeats 1000000 in
theorem is_calls {w0 w : World} {l : List HProp} (p : Nat) (sl : Int) (a1 : Option Addr) (m c1 : Nat) (x y : Value) (who : Int) (hs : Sat w0 w ((Blk p (.cells #[.int .i64 sl, .slice a1 m c1, x, y] 136 (0, 0))) :: l))  :
  Calls Try.prog 72 #[.pointer (some ⟨p, 0, none⟩), .int .i64 who] w (Ret w0 fun v l' => v = .bool (decide (0 ≤ who) && decide (who < m)) ∧ l' = Blk p (.cells #[.int .i64 sl, .slice a1 m c1, x, y] 136 (0, 0)) :: l) := by
 refine calls_enter Try.func72 rfl rfl rfl hs ?_
 refine Z0 ?_
 refine Zb ?_
 refine Zg ?_
 refine oq (op_nenil Try.underlying79 rfl rfl) ?_
 refine Zbe ?_
 refine ol_q (wn_some rfl rfl rfl rfl rfl) (op_ge rfl rfl) rfl ?_
 refine Z6b ?_
 refine Z5 ?_
 refine ol_split 11 rfl (fun hb1 => ?_) (fun hb1 => ?_)
 ·have hp1 := hb1
  (try simp only [bn] at hp1)
  refine Z2q ?_
  refine Z50 ?_
  refine Z51 ?_
  refine ol_q (wn_some rfl rfl rfl hb1 rfl) (op_field fld_136_1 rfl) rfl ?_
  refine ol_q (wn_some rfl rfl rfl hb1 rfl) (op_ld 0 sc_132 rfl rfl rfl) rfl ?_
  refine ol_q (wn_some rfl rfl rfl hb1 rfl) (op_len_slice Try.underlying132 rfl) rfl ?_
  refine Z5x ?_
  refine Z20 ?_
  refine Zk ?_
  exact Z9p
 have hp1 := hb1
 (try simp only [bn] at hp1)
 refine Z3o ?_
 refine Z4t ?_
 refine Z21 ?_
 refine Zk ?_
 exact Z9p

set_option maxRecDepth 100000 in
theorem New_calls {w0 w : World} {l : List HProp} (n sl : Int) (hs : Sat w0 w (l))  :
  Calls Try.prog 85 #[.int .i64 n, .int .i64 sl] w (Ret w0 fun v l' => (v = .pointer none ∧ l' = l ∧ (n < 1 ∨ 64 < n ∨ sl < 1 ∨ 32 < sl)) ∨ ∃ p, v = .pointer (some ⟨p, 0, none⟩) ∧ (1 ≤ n ∧ n ≤ 64 ∧ 1 ≤ sl ∧ sl ≤ 32) ∧ l' = TabObj p (TabS.new n.toNat sl) :: l) := by
 refine calls_enter Try.func85 rfl rfl rfl hs ?_
 refine Z31 ?_
 refine Z1 ?_
 refine Zf ?_
 refine Z4y ?_
 refine Z5 ?_
 refine ol_split 7 rfl (fun hb1 => ?_) (fun hb1 => ?_)
 ·have hp1 := hb1
  (try simp only [bn] at hp1)
  refine Z69 ?_
  refine Z20 ?_
  refine Z3h ?_
  refine Z3h ?_
  refine Z3p ?_
  refine Z1s ?_
  refine Z13 ?_
  exact Z9q
 have hp1 := hb1
 (try simp only [bn] at hp1)
 refine Z2q ?_
 refine Z8f ?_
 refine Z21 ?_
 refine Z5 ?_
 refine ol_split 11 rfl (fun hb2 => ?_) (fun hb2 => ?_)
 ·have hp2 := hb2
  (try simp only [bn] at hp2)
  refine Z1g ?_
  refine Z37 ?_
  refine Z3h ?_
  refine Z3p ?_
  refine Z1s ?_
  refine Z13 ?_
  exact Z9q
 have hp2 := hb2
 (try simp only [bn] at hp2)
 refine Z4i ?_
 refine Z8g ?_
 refine Z2v ?_
 refine Z5 ?_
 refine ol_split 15 rfl (fun hb3 => ?_) (fun hb3 => ?_)
 ·have hp3 := hb3
  (try simp only [bn] at hp3)
  refine Z2p ?_
  refine Z4j ?_
  refine Z3p ?_
  refine Z1s ?_
  refine Z13 ?_
  exact Z9q
 have hp3 := hb3
 (try simp only [bn] at hp3)
 refine Z5f ?_
 refine Z5t ?_
 refine Z5g ?_
 refine Z1 ?_
 refine cd_cond rfl (fun hb4 => ?_) (fun hb4 => ?_)
 ·have hp4 := hb4
  (try simp only [bn] at hp4)
  refine Z31 ?_
  refine Z1s ?_
  refine Z13 ?_
  exact Z9q
 have hp4 := hb4
 (try simp only [bn] at hp4)
 refine Zn ?_
 refine cd_drawe (M := []) mx [2, 4, 5, 7] ?_
 refine Z6h ?_
 refine Z6t ?_
 refine e_q 3 rfl (wn_none rfl) (op_move (v := .int _ _) rfl) ?_
 refine et_3 (i1 := 2) (i2 := 4) (i3 := 5) (by kernel_rfl) ?_ ?_ ?_
 ·
  refine ei_i rfl rfl (wn_none rfl) (os_make (E := encPtr) (_) (none) sB_132 zv_137 rfl rfl rfl (Int.toNat_of_nonneg (by omega)).symm (by omega) (by unfold maxLen; omega)) rfl ?_; rintro _ _ ⟨ao1, rfl, rfl⟩; refine ⟨[_], rfl, ?_⟩
  refine et_2 (i1 := 4) (i2 := 5) (by kernel_rfl) ?_ ?_
  ·
   refine Z73 ?_; intro ao2
   refine Z6x ?_
   refine ei_i rfl rfl (wn_none rfl) (os_makeMap) rfl ?_; rintro _ _ ⟨mp1, rfl, rfl⟩; refine ⟨[_, _, _], rfl, ?_⟩
   refine Z74 ?_
   refine Zt ?_
   refine Z42 ?_; intro bx2
   refine Z75 ?_
   refine Z1t ?_
   refine px_ret1 rfl (v := .pointer _) (l' := TabObj _ (TabS.new n.toNat sl) :: l) rfl (fun _ s => ?_) (.inr ⟨_, rfl, by omega, rfl⟩)
   have s2 := Sat.head_iff (Sat.emp_cons ((Sat.pull 3 ((((s.pull 1).pull 2).pull 3).pull 3)).mapNew EK2 EVR)) (ptrs_none (F := VoteObj) n.toNat).symm
   exact Z76
  refine ei_i rfl rfl (wn_none rfl) (os_makeMap) rfl ?_; rintro _ _ ⟨mp3, rfl, rfl⟩; refine ⟨[_, _], rfl, ?_⟩
  refine Z2g ?_
  refine Z77 ?_; intro ao3
  refine Z74 ?_
  refine Zt ?_
  refine Z42 ?_; intro bx4
  refine Z75 ?_
  refine Z1t ?_
  refine px_ret1 rfl (v := .pointer _) (l' := TabObj _ (TabS.new n.toNat sl) :: l) rfl (fun _ s => ?_) (.inr ⟨_, rfl, by omega, rfl⟩)
  have s2 := Sat.head_iff (Sat.emp_cons ((Sat.pull 3 ((((s.pull 2).pull 2).pull 3).pull 3)).mapNew EK2 EVR)) (ptrs_none (F := VoteObj) n.toNat).symm
  exact Z76
 ·
  refine Zau ?_; intro ao4
  refine et_2 (i1 := 2) (i2 := 5) (by kernel_rfl) ?_ ?_
  ·
   refine Zbr ?_; intro ao5
   refine Z6x ?_
   refine ei_i rfl rfl (wn_none rfl) (os_makeMap) rfl ?_; rintro _ _ ⟨mp5, rfl, rfl⟩; refine ⟨[_, _, _], rfl, ?_⟩
   refine Z74 ?_
   refine Zt ?_
   refine Z42 ?_; intro bx6
   refine Z75 ?_
   refine Z1t ?_
   refine px_ret1 rfl (v := .pointer _) (l' := TabObj _ (TabS.new n.toNat sl) :: l) rfl (fun _ s => ?_) (.inr ⟨_, rfl, by omega, rfl⟩)
   have s2 := Sat.head_iff (Sat.emp_cons ((Sat.pull 3 ((((s.pull 1).pull 3).pull 3).pull 3)).mapNew EK2 EVR)) (ptrs_none (F := VoteObj) n.toNat).symm
   exact Z76
  refine ei_i rfl rfl (wn_none rfl) (os_makeMap) rfl ?_; rintro _ _ ⟨mp7, rfl, rfl⟩; refine ⟨[_, _], rfl, ?_⟩
  refine Z8t ?_
  refine Zbs ?_; intro ao6
  refine Z74 ?_
  refine Zt ?_
  refine Z42 ?_; intro bx8
  refine Z75 ?_
  refine Z1t ?_
  refine px_ret1 rfl (v := .pointer _) (l' := TabObj _ (TabS.new n.toNat sl) :: l) rfl (fun _ s => ?_) (.inr ⟨_, rfl, by omega, rfl⟩)
  have s2 := Sat.head_iff (Sat.emp_cons ((Sat.pull 3 ((((s.pull 2).pull 3).pull 3).pull 3)).mapNew EK2 EVR)) (ptrs_none (F := VoteObj) n.toNat).symm
  exact Z76
 refine ei_i rfl rfl (wn_none rfl) (os_makeMap) rfl ?_; rintro _ _ ⟨mp9, rfl, rfl⟩; refine ⟨[_], rfl, ?_⟩
 refine et_2 (i1 := 2) (i2 := 4) (by kernel_rfl) ?_ ?_
 ·
  refine Zbr ?_; intro ao7
  refine Z2g ?_
  refine Z77 ?_; intro ao8
  refine Z74 ?_
  refine Zt ?_
  refine Z42 ?_; intro bx10
  refine Z75 ?_
  refine Z1t ?_
  refine px_ret1 rfl (v := .pointer _) (l' := TabObj _ (TabS.new n.toNat sl) :: l) rfl (fun _ s => ?_) (.inr ⟨_, rfl, by omega, rfl⟩)
  have s2 := Sat.head_iff (Sat.emp_cons ((Sat.pull 3 ((((s.pull 3).pull 2).pull 3).pull 3)).mapNew EK2 EVR)) (ptrs_none (F := VoteObj) n.toNat).symm
  exact Z76
 refine Z73 ?_; intro ao9
 refine Z8t ?_
 refine Zbs ?_; intro ao10
 refine Z74 ?_
 refine Zt ?_
 refine Z42 ?_; intro bx11
 refine Z75 ?_
 refine Z1t ?_
 refine px_ret1 rfl (v := .pointer _) (l' := TabObj _ (TabS.new n.toNat sl) :: l) rfl (fun _ s => ?_) (.inr ⟨_, rfl, by omega, rfl⟩)
 have s2 := Sat.head_iff (Sat.emp_cons ((Sat.pull 3 s).mapNew EK2 EVR)) (ptrs_none (F := VoteObj) n.toNat).symm
 exact Z76

set_option maxRecDepth 100000 in
theorem Take_calls {w0 w : World} {l : List HProp} (p : Nat) (t : TabS) (v : Vote) (hs : Sat w0 w ((TabObj p t) :: l))  :
  Calls Try.prog 74 #[.pointer (some ⟨p, 0, none⟩), .agg (voteC v).toArray] w (Ret w0 fun r l' => r = .int .i64 (t.take v).1 ∧ l' = TabObj p (t.take v).2 :: l) := by
 obtain ⟨a1, c1, a2, c2, b, ps, hw, hal, hs⟩ := hs.tabOpen
 unfold TabParts at hs; simp only [List.cons_append, List.nil_append] at hs
 have hs1 := hw.s1; have hs2 := hw.s2; have hn1 := hw.n1; have hlo := hw.lo
 refine calls_enter Try.func74 rfl rfl rfl hs ?_
 refine Z3z ?_; intro bx1
 refine Z5m ?_
 refine oq (op_ld 0 sc_3 rfl rfl (voteC_a0 _)) ?_
 refine Z9 ?_
 refine oi (os_call cb_72 rfl (fun w s => is_calls _ _ _ _ _ _ _ _  s )) ?_; rintro _ _ ⟨rfl, rfl⟩
 refine Z3e ?_
 refine Z5 ?_
 refine ol_split 14 rfl (fun hb1 => ?_) (fun hb1 => ?_)
 ·have hp1 := hb1
  (try simp only [bn] at hp1)
  have hv : t.isV v.who = false := by unfold TabS.isV; rw [← hal]; simpa only [Bool.not_eq_true'] using hb1
  refine Z4t ?_
  refine Z20 ?_
  refine Z5p ?_
  refine Z6s ?_
  refine Z6b ?_
  refine Z3w ?_
  have e : t.take v = (5, t) := by unfold TabS.take; rw [if_pos (by simp [*])]
  have hw2 := hw.take v
  rw [e] at hw2 ⊢
  exact Z9r
 have hp1 := hb1
 (try simp only [bn] at hp1)
 have hv : t.isV v.who = true := by unfold TabS.isV; rw [← hal]; simpa only [Bool.not_eq_false'] using hb1
 obtain ⟨hv1, hv2⟩ := TabS.isV_iff.1 hv
 refine ol_q (wn_some rfl rfl rfl hb1 rfl) (op_field fld_84_1 rfl) rfl ?_
 refine ol_q (wn_some rfl rfl rfl hb1 rfl) (op_ld 1 sc_3 rfl rfl (voteC_a1 _)) rfl ?_
 refine Z5x ?_
 refine Z21 ?_
 refine Z5 ?_
 refine ol_split 19 rfl (fun hb2 => ?_) (fun hb2 => ?_)
 ·have hp2 := hb2
  (try simp only [bn] at hp2)
  have hslot := of_decide_eq_true hb2
  refine Z1g ?_
  refine Z5s ?_
  refine Z37 ?_
  refine Z3w ?_
  have e : t.take v = (5, t) := by unfold TabS.take; rw [if_pos (by simp [*])]
  have hw2 := hw.take v
  rw [e] at hw2 ⊢
  exact Z9r
 have hp2 := hb2
 (try simp only [bn] at hp2)
 have hslot := of_decide_eq_false hb2
 refine ol_q (wn_some rfl rfl rfl hb2 rfl) (op_field fld_84_1 rfl) rfl ?_
 refine ol_q (wn_some rfl rfl rfl hb2 rfl) (op_ld 1 sc_3 rfl rfl (voteC_a1 _)) rfl ?_
 refine ol_q (wn_some rfl rfl rfl hb2 rfl) (op_gt rfl rfl) rfl ?_
 refine Z2v ?_
 refine Z1 ?_
 refine cd_cond rfl (fun hb3 => ?_) (fun hb3 => ?_)
 ·have hp3 := hb3
  (try simp only [bn] at hp3)
  have hslot2 := of_decide_eq_true hb3
  refine Z1y ?_
  have e : t.take v = (5, t) := by unfold TabS.take; rw [if_pos (by simp [*])]
  have hw2 := hw.take v
  rw [e] at hw2 ⊢
  exact Z9r
 have hp3 := hb3
 (try simp only [bn] at hp3)
 have hslot2 := of_decide_eq_false hb3
 have hcond : ¬ (t.isV v.who = false ∨ v.slot < 0 ∨ 1073741824 < v.slot) := by simp only [hv]; simp; omega
 have hep := ep_le (show 0 ≤ v.slot by omega) (show v.slot ≤ 1073741824 by omega) hs1
 refine Zn ?_
 refine Z1u ?_
 refine Z6 ?_
 refine rg_q (wn_none rfl) (op_field fld_136_2 rfl) rfl rfl ?_
 refine rg_q (wn_none rfl) (op_ld 0 sc_133 rfl rfl rfl) rfl rfl ?_
 refine Z1x ?_
 refine Z9s ?_
 refine rg_q (wn_none rfl) (op_index _ sB_133 rfl rfl (Int.toNat_of_nonneg (by omega)).symm (rds_row 3 rfl rfl) rfl (by omega)) rfl rfl ?_
 refine rg_q (wn_none rfl) (op_ldw sc_4 (rds_row 3 rfl rfl) rfl (by omega) rfl) rfl rfl ?_
 refine Z1a ?_
 refine cd_cond rfl (fun hb4 => ?_) (fun hb4 => ?_)
 ·have hp4 := hb4
  (try simp only [bn] at hp4)
  have ho : t.out.getD v.who.toNat false = true := by simpa [List.getD_eq_getElem?_getD, show v.who.toNat < t.out.length by omega] using hb4
  refine Z1y ?_
  have e : t.take v = (4, t) := by unfold TabS.take; rw [if_neg hcond, if_pos ho]
  have hw2 := hw.take v
  rw [e] at hw2 ⊢
  exact Z9r
 have hp4 := hb4
 (try simp only [bn] at hp4)
 have ho : ¬ t.out.getD v.who.toNat false = true := by simpa [List.getD_eq_getElem?_getD, show v.who.toNat < t.out.length by omega] using hb4
 refine Zn ?_
 refine cd_drawt (M := []) mx [10] 11 (by kernel_rfl) rfl rfl ?_
 dsimp only [List.take_succ_cons, List.take_zero, List.drop_succ_cons, List.drop_zero]
 refine Z1x ?_
 refine Z9s ?_
 refine rg_q (wn_none rfl) (op_field fld_84_1 rfl) rfl rfl ?_
 refine rg_q (wn_none rfl) (op_ld 1 sc_3 rfl rfl (voteC_a1 _)) rfl rfl ?_
 refine Z6 ?_
 refine rg_q (wn_none rfl) (op_field fld_136_0 rfl) rfl rfl ?_
 refine Z8i ?_
 refine Zav ?_
 refine rg_q (wn_none rfl) (op_build (L := [_, _]) (vs := [(0, .int _ _), (1, .int _ _)]) bB_157 rfl ⟨⟨rfl, rfl⟩, ⟨rfl, rfl⟩, trivial⟩ rfl) rfl rfl ?_
 refine rg_i (wn_none rfl) (os_alloc zB_157 rfl) rfl rfl ?_; rintro _ _ ⟨bx2, rfl, rfl⟩; refine ⟨[_], rfl, ?_⟩
 refine rg_tail1 ?_
 refine oN (os_storea (L' := [_, _]) ag_157 rfl rfl rfl (by simp [Value.oneCell']) rfl (Free.zero _) rfl) ?_; rintro _ _ ⟨rfl, rfl⟩
 refine Z39 ?_
 rcases hlk : look t.first (v.who, v.slot / t.slots) with _ | r0
 ·
  refine Z7 ?_
  refine cd_draw (M := []) mx [9, 10] (by kernel_rfl) ?_
  refine Z6 ?_
  refine Z9t ?_
  refine rg_q (wn_none rfl) (op_ld 1 sc_134 rfl rfl rfl) rfl rfl ?_
  refine rg_q (wn_none rfl) (op_lda 0 ag_157 rfl rfl (by rfl) (by simp)) rfl rfl ?_
  refine rg_q (wn_none rfl) (op_lookup2N 5 (v.who, v.slot / t.slots) Try.underlying134 zBr_24 (keyok_tab hw ⟨hv1, by omega⟩ hep) hlk rfl rfl rfl) rfl rfl ?_
  refine Z4z ?_
  refine rg_q (wn_none rfl) (op_extract (v := .agg _) rfl rfl) rfl rfl ?_
  refine Z6d ?_
  refine Zcx ?_; intro bx3
  refine Z2x ?_
  refine rg_nil_then1 ?_
  refine Z0 ?_
  refine Z5 ?_
  refine Z3a ?_
  refine Zn ?_
  refine Z6i ?_
  dsimp only [List.take_succ_cons, List.take_zero, List.drop_succ_cons, List.drop_zero]
  refine Z6 ?_
  refine Z9t ?_
  refine rg_q (wn_none rfl) (op_ld 2 sc_134 rfl rfl rfl) rfl rfl ?_
  refine rg_q (wn_none rfl) (op_lda 1 ag_157 rfl rfl (by rfl) (by simp)) rfl rfl ?_
  refine Z3x ?_
  refine rg_tail0 ?_
  refine Z25 ?_
  refine oN (os_mapUpdate (v.who, v.slot / t.slots) v.target Try.underlying134 (keyok_tab hw ⟨hv1, by omega⟩ hep) rfl rfl rfl) ?_; rintro _ _ ⟨rfl, rfl⟩
  refine Z39 ?_
  refine cd_pull7 ?_
  refine cd_ptrs v.who.toNat (by omega) (fun hvq haq => ?_) (fun q u hvq haq => ?_)
  ·have hlv : t.latest.getD v.who.toNat none = none := by rw [List.getD_eq_getElem?_getD, hvq]; rfl
   have hax : ps[v.who.toNat]? = _ := haq
   have hae : ps[v.who.toNat] = _ := (List.getElem_eq_iff (by omega)).2 haq
   refine Z1u ?_
   refine Z6 ?_
   refine Z9v ?_
   refine rg_q (wn_none rfl) (op_ld 4 sc_132 rfl rfl rfl) rfl rfl ?_
   refine Z1x ?_
   refine Zd1 ?_
   refine rg_q (wn_none rfl) (op_ldw (v := .pointer none) sc_137 (rds_row 6 rfl rfl) rfl (by omega) (congrArg (fun q => some (Value.pointer q)) hae)) rfl rfl ?_
   refine Z56 ?_
   refine Z1a ?_
   refine Z1u ?_
   refine Zd ?_
   refine rg_q (wn_none rfl) (op_nenil Try.underlying137 rfl rfl) rfl rfl ?_
   refine Z4k ?_
   refine Z43 ?_
   refine Z43 ?_
   refine Z43 ?_
   refine Z43 ?_
   refine Z43 ?_
   refine Z43 ?_
   refine Z43 ?_
   refine Z43 ?_
   refine Z43 ?_
   refine Z43 ?_
   refine Z43 ?_
   refine Z43 ?_
   refine rg_q (wn_none rfl) (op_pick_f (v := .bool _) rfl rfl rfl) rfl rfl ?_
   refine Z1a ?_
   refine cd_cond_f rfl rfl ?_
   refine Zn ?_
   refine Z6i ?_
   dsimp only [List.take_succ_cons, List.take_zero, List.drop_succ_cons, List.drop_zero]
   refine Z6 ?_
   refine Z9v ?_
   refine rg_q (wn_none rfl) (op_ld 4 sc_132 rfl rfl rfl) rfl rfl ?_
   refine Z1x ?_
   refine Zd1 ?_
   refine rg_tail0 ?_
   refine Z25 ?_
   refine oN (os_stsw  sc_137 rfl rfl rfl (by omega) rfl rfl) ?_; rintro _ _ ⟨rfl, rfl⟩
   refine Z1 ?_
   refine Z1c ?_
   have e : t.take v = (0, { t with first := ins t.first (v.who, v.slot / t.slots) v.target, latest := t.latest.set v.who.toNat (some v) }) := by unfold TabS.take; rw [if_neg hcond, if_neg ho, hlk]; simp only [hlv]
   have hw2 := hw.take v
   rw [e] at hw2 ⊢
   exact px_ret1 rfl (v := .int _ _) (l' := TabObj p { t with first := ins t.first (v.who, v.slot / t.slots) v.target, latest := t.latest.set v.who.toNat (some v) } :: l) rfl (fun _ s => Sat.tabMk (t := { t with first := ins t.first (v.who, v.slot / t.slots) v.target, latest := t.latest.set v.who.toNat (some v) }) hw2 (by simp) (by simp) (((((Sat.ptrs_put (F := VoteObj) (ps := ps) (vs := t.latest) (i := v.who.toNat) ((Sat.ptrs_del v.who.toNat ((((((((s.del 4).del 3).pull 2).pull 5).pull 2).pull 4).pull 5).pull 5) (by omega)).pull 1) (by omega) (by omega)).pull 4).pull 4).pull 4).pull 4)) ⟨rfl, rfl⟩
  have hlv : t.latest.getD v.who.toNat none = some u := by rw [List.getD_eq_getElem?_getD, hvq]; rfl
  have hu := hw.sl u (List.mem_of_getElem? hvq)
  have hax : ps[v.who.toNat]? = _ := haq
  have hae : ps[v.who.toNat] = _ := (List.getElem_eq_iff (by omega)).2 haq
  refine Z1u ?_
  refine Z6 ?_
  refine Z9v ?_
  refine rg_q (wn_none rfl) (op_ld 5 sc_132 rfl rfl rfl) rfl rfl ?_
  refine Z1x ?_
  refine Zd2 ?_
  refine rg_q (wn_none rfl) (op_ldw (v := .pointer (some ⟨q, 0, none⟩)) sc_137 (rds_row 7 rfl rfl) rfl (by omega) (congrArg (fun q => some (Value.pointer q)) hae)) rfl rfl ?_
  refine Z56 ?_
  refine Z1a ?_
  refine Z1u ?_
  refine Zd ?_
  refine rg_q (wn_none rfl) (op_nenil Try.underlying137 rfl rfl) rfl rfl ?_
  refine Z4k ?_
  refine rg_q (wn_some rfl rfl rfl rfl rfl) (op_move (v := .pointer _) rfl) rfl rfl ?_
  refine rg_q (wn_some rfl rfl rfl rfl rfl) (op_nilck rfl) rfl rfl ?_
  refine rg_q (wn_some rfl rfl rfl rfl rfl) (op_field fld_84_1 rfl) rfl rfl ?_
  refine rg_q (wn_some rfl rfl rfl rfl rfl) (op_ld 0 sc_3 rfl rfl (voteC_a1 _)) rfl rfl ?_
  refine rg_q (wn_some rfl rfl rfl rfl rfl) (op_move (v := .pointer _) rfl) rfl rfl ?_
  refine rg_q (wn_some rfl rfl rfl rfl rfl) (op_nilck rfl) rfl rfl ?_
  refine rg_q (wn_some rfl rfl rfl rfl rfl) (op_field fld_136_0 rfl) rfl rfl ?_
  refine rg_q (wn_some rfl rfl rfl rfl rfl) (op_ld 5 sc_3 rfl rfl rfl) rfl rfl ?_
  refine rg_q (wn_some rfl rfl rfl rfl rfl) (op_quo rfl rfl (by omega) (by omega) (by omega)) rfl rfl ?_
  refine rg_q (wn_some rfl rfl rfl rfl rfl) (op_field fld_157_1 rfl) rfl rfl ?_
  refine rg_q (wn_some rfl rfl rfl rfl rfl) (op_ld 4 sc_3 rfl rfl rfl) rfl rfl ?_
  refine rg_q (wn_some rfl rfl rfl rfl rfl) (op_gt rfl rfl) rfl rfl ?_
  refine rg_q (wn_none rfl) (op_pick_t (v := .bool _) rfl rfl rfl) rfl rfl ?_
  refine Z1a ?_
  refine cd_cond rfl (fun hb5 => ?_) (fun hb5 => ?_)
  ·have hp5 := hb5
   (try simp only [bn] at hp5)
   have hlate : v.slot / t.slots < u.slot / t.slots := of_decide_eq_true hb5
   refine Z1y ?_
   have e : t.take v = (3, { t with first := ins t.first (v.who, v.slot / t.slots) v.target }) := by unfold TabS.take; rw [if_neg hcond, if_neg ho, hlk]; simp only [hlv, if_pos hlate]
   have hw2 := hw.take v
   rw [e] at hw2 ⊢
   exact px_ret1 rfl (v := .int _ _) (l' := TabObj p { t with first := ins t.first (v.who, v.slot / t.slots) v.target } :: l) rfl (fun _ s => Sat.tabMk (t := { t with first := ins t.first (v.who, v.slot / t.slots) v.target }) hw2 (by simp) (by simp) (((((Sat.ptrs_back (F := VoteObj) (ps := ps) (vs := t.latest) (i := v.who.toNat) (((((((((s.del 6).del 4).del 3).pull 2).pull 5).pull 5).pull 5).pull 5).pull 5) hvq haq).pull 4).pull 4).pull 4).pull 4)) ⟨rfl, rfl⟩
  have hp5 := hb5
  (try simp only [bn] at hp5)
  have hlate : ¬ v.slot / t.slots < u.slot / t.slots := of_decide_eq_false hb5
  refine Zn ?_
  refine Z6i ?_
  dsimp only [List.take_succ_cons, List.take_zero, List.drop_succ_cons, List.drop_zero]
  refine Z6 ?_
  refine Z9v ?_
  refine rg_q (wn_none rfl) (op_ld 5 sc_132 rfl rfl rfl) rfl rfl ?_
  refine Z1x ?_
  refine Zd2 ?_
  refine rg_tail0 ?_
  refine ol_pull7 ?_
  refine oN (os_stsw  sc_137 rfl rfl rfl (by omega) rfl rfl) ?_; rintro _ _ ⟨rfl, rfl⟩
  refine Z1 ?_
  refine Z1c ?_
  have e : t.take v = (0, { t with first := ins t.first (v.who, v.slot / t.slots) v.target, latest := t.latest.set v.who.toNat (some v) }) := by unfold TabS.take; rw [if_neg hcond, if_neg ho, hlk]; simp only [hlv, if_neg hlate]
  have hw2 := hw.take v
  rw [e] at hw2 ⊢
  exact px_ret1 rfl (v := .int _ _) (l' := TabObj p { t with first := ins t.first (v.who, v.slot / t.slots) v.target, latest := t.latest.set v.who.toNat (some v) } :: l) rfl (fun _ s => Sat.tabMk (t := { t with first := ins t.first (v.who, v.slot / t.slots) v.target, latest := t.latest.set v.who.toNat (some v) }) hw2 (by simp) (by simp) (((((Sat.ptrs_put (F := VoteObj) (ps := ps) (vs := t.latest) (i := v.who.toNat) (((((((((s.del 5).del 4).del 1).pull 2).pull 5).pull 2).pull 4).pull 4).pull 5) (by omega) (by omega)).pull 4).pull 4).pull 4).pull 4)) ⟨rfl, rfl⟩
 refine Z7 ?_
 refine cd_draw (M := []) mx [9, 10] (by kernel_rfl) ?_
 refine Z6 ?_
 refine Z9t ?_
 refine rg_q (wn_none rfl) (op_ld 1 sc_134 rfl rfl rfl) rfl rfl ?_
 refine rg_q (wn_none rfl) (op_lda 0 ag_157 rfl rfl (by rfl) (by simp)) rfl rfl ?_
 refine rg_q (wn_none rfl) (op_lookup2S 5 (v.who, v.slot / t.slots) Try.underlying134 zBr_24 (keyok_tab hw ⟨hv1, by omega⟩ hep) hlk rfl rfl rfl) rfl rfl ?_
 refine Z4z ?_
 refine rg_q (wn_none rfl) (op_extract (v := .agg _) rfl rfl) rfl rfl ?_
 refine Z6d ?_
 refine Zcx ?_; intro bx4
 refine Z2x ?_
 refine rg_nil_then1 ?_
 refine Z0 ?_
 refine Z5 ?_
 refine Z2b ?_
 refine Z15 ?_
 refine Z2k ?_
 refine Z60 ?_
 refine oq (op_lda (L := rootC _) 3 ag_24 rfl rfl (voteC_af2 _) (by simp [voteC_len])) ?_
 refine oq (op_eqroot _ _ rB_24 rfl rfl) ?_
 refine Z1 ?_
 refine cd_cond rfl (fun hb6 => ?_) (fun hb6 => ?_)
 ·have hp6 := hb6
  (try simp only [bn] at hp6)
  have hr0 : r0 = v.target := of_decide_eq_true hb6
  refine Z1y ?_
  refine Z13 ?_
  have e : t.take v = (1, t) := by unfold TabS.take; rw [if_neg hcond, if_neg ho, hlk]; simp [hr0]
  have hw2 := hw.take v
  rw [e] at hw2 ⊢
  exact px_ret1 rfl (v := .int _ _) (l' := TabObj p t :: l) rfl (fun _ s => Sat.tabMk (t := t) hw2 (by simp) (by simp) (((s.del 3).del 1).del 0)) ⟨rfl, rfl⟩
 have hp6 := hb6
 (try simp only [bn] at hp6)
 have hr0 : ¬ r0 = v.target := of_decide_eq_false hb6
 refine Zn ?_
 refine Z6i ?_
 dsimp only [List.take_succ_cons, List.take_zero, List.drop_succ_cons, List.drop_zero]
 refine Z6 ?_
 refine rg_q (wn_none rfl) (op_field fld_136_2 rfl) rfl rfl ?_
 refine rg_q (wn_none rfl) (op_ld 2 sc_133 rfl rfl rfl) rfl rfl ?_
 refine Z1x ?_
 refine Z57 ?_
 refine Z8u ?_
 refine rg_tail0 ?_
 refine ol_pull5 ?_
 refine Z9w ?_
 refine Z1 ?_
 refine Z1y ?_
 have e : t.take v = (2, { t with out := t.out.set v.who.toNat true }) := by unfold TabS.take; rw [if_neg hcond, if_neg ho, hlk]; simp [hr0]
 have hw2 := hw.take v
 rw [e] at hw2 ⊢
 exact px_ret1 rfl (v := .int _ _) (l' := TabObj p { t with out := t.out.set v.who.toNat true } :: l) rfl (fun _ s => Sat.tabMk (t := { t with out := t.out.set v.who.toNat true }) hw2 (by simp) (by simp) ((((((((s.del 4).del 2).del 1).pull 4).pull 4).pull 2).pull 4).pull 4)) ⟨rfl, rfl⟩

set_option maxRecDepth 100000 in
theorem TVote_calls {w0 w : World} {l : List HProp} (p : Nat) (t : TabS) (who : Int) (hs : Sat w0 w ((TabObj p t) :: l))  :
  Calls Try.prog 41 #[.pointer (some ⟨p, 0, none⟩), .int .i64 who] w (Ret w0 fun r l' => r = .tuple #[.agg (voteC ((t.vote who).getD Vote.zero)).toArray, .bool (t.vote who).isSome] ∧ l' = TabObj p t :: l) := by
 obtain ⟨a1, c1, a2, c2, b, ps, hw, hal, hs⟩ := hs.tabOpen
 unfold TabParts at hs; simp only [List.cons_append, List.nil_append] at hs
 have hs1 := hw.s1; have hs2 := hw.s2; have hn1 := hw.n1; have hlo := hw.lo
 refine calls_enter Try.func41 rfl rfl rfl hs ?_
 refine Z0 ?_
 refine Z9x ?_; intro bx1
 refine Zb ?_
 refine Z7 ?_
 refine cd_pull5 ?_
 by_cases hv : t.isV who = true
 ·obtain ⟨hv1, hv2⟩ := TabS.isV_iff.1 hv
  refine cd_ptrs who.toNat (by omega) (fun hvq haq => ?_) (fun q u hvq haq => ?_)
  ·have hlv : t.vote who = none := by rw [TabS.vote_at ⟨hv1, hv2⟩, List.getD_eq_getElem?_getD, hvq]; rfl
   have hae : ps[who.toNat] = _ := (List.getElem_eq_iff (by omega)).2 haq
   refine Zg ?_
   refine Z4 ?_
   refine Zs ?_
   refine oi (os_call cb_72 rfl (fun w s => is_calls _ _ _ _ _ _ _ _  s )) ?_; rintro _ _ ⟨rfl, rfl⟩; have his : (decide (0 ≤ who) && decide (who < (ps.length : Int))) = t.isV who := by unfold TabS.isV; rw [hal]
   refine Z3e ?_
   refine Z5 ?_
   refine ol_split 10 rfl (fun hb1 => ?_) (fun hb1 => ?_)
   ·have hp1 := hb1
    (try simp only [bn] at hp1)
    exact absurd hb1 (by rw [his, hv]; decide)
   have hp1 := hb1
   (try simp only [bn] at hp1)
   refine Z50 ?_
   refine Z51 ?_
   refine ol_q (wn_some rfl rfl rfl hb1 rfl) (op_field fld_136_1 rfl) rfl ?_
   refine ol_q (wn_some rfl rfl rfl hb1 rfl) (op_ld 0 sc_132 rfl rfl rfl) rfl ?_
   refine Z2q ?_
   refine ol_q (wn_some rfl rfl rfl hb1 rfl) (op_index _ sB_132 rfl rfl (Int.toNat_of_nonneg (by omega)).symm (rds_row 3 rfl rfl) rfl (by omega)) rfl ?_
   refine ol_q (wn_some rfl rfl rfl hb1 rfl) (op_ldw (v := .pointer none) sc_137 (rds_row 3 rfl rfl) rfl (by omega) (congrArg (fun q => some (Value.pointer q)) hae)) rfl ?_
   refine ol_q (wn_some rfl rfl rfl hb1 rfl) (op_eqnil Try.underlying137 rfl rfl) rfl ?_
   refine Z21 ?_
   refine Z2b ?_
   refine Z0 ?_
   refine oq (op_build (L := voteC _) (vs := []) bB_84 rfl trivial rfl) ?_
   refine Zs ?_
   refine Z78 ?_
   refine Zv ?_
   rw [hlv]
   exact Zbt
  have hlv : t.vote who = some u := by rw [TabS.vote_at ⟨hv1, hv2⟩, List.getD_eq_getElem?_getD, hvq]; rfl
  have hae : ps[who.toNat] = _ := (List.getElem_eq_iff (by omega)).2 haq
  refine Zg ?_
  refine Z4 ?_
  refine Zl ?_
  refine oi (os_call cb_72 rfl (fun w s => is_calls _ _ _ _ _ _ _ _  s )) ?_; rintro _ _ ⟨rfl, rfl⟩; have his : (decide (0 ≤ who) && decide (who < (ps.length : Int))) = t.isV who := by unfold TabS.isV; rw [hal]
  refine Z3e ?_
  refine Z5 ?_
  refine ol_split 10 rfl (fun hb2 => ?_) (fun hb2 => ?_)
  ·have hp2 := hb2
   (try simp only [bn] at hp2)
   exact absurd hb2 (by rw [his, hv]; decide)
  have hp2 := hb2
  (try simp only [bn] at hp2)
  refine ol_q (wn_some rfl rfl rfl hb2 rfl) (op_move (v := .pointer _) rfl) rfl ?_
  refine ol_q (wn_some rfl rfl rfl hb2 rfl) (op_nilck rfl) rfl ?_
  refine ol_q (wn_some rfl rfl rfl hb2 rfl) (op_field fld_136_1 rfl) rfl ?_
  refine ol_q (wn_some rfl rfl rfl hb2 rfl) (op_ld 0 sc_132 rfl rfl rfl) rfl ?_
  refine Z4i ?_
  refine ol_q (wn_some rfl rfl rfl hb2 rfl) (op_index _ sB_132 rfl rfl (Int.toNat_of_nonneg (by omega)).symm (rds_row 4 rfl rfl) rfl (by omega)) rfl ?_
  refine ol_q (wn_some rfl rfl rfl hb2 rfl) (op_ldw (v := .pointer (some ⟨q, 0, none⟩)) sc_137 (rds_row 4 rfl rfl) rfl (by omega) (congrArg (fun q => some (Value.pointer q)) hae)) rfl ?_
  refine ol_q (wn_some rfl rfl rfl hb2 rfl) (op_eqnil Try.underlying137 rfl rfl) rfl ?_
  refine Z2v ?_
  refine Z2c ?_
  refine Z1v ?_
  refine oq (op_field fld_136_1 rfl) ?_
  refine oq (op_ld 0 sc_132 rfl rfl rfl) ?_
  refine Z4 ?_
  refine oq (op_index _ sB_132 rfl rfl (Int.toNat_of_nonneg (by omega)).symm (rds_row 4 rfl rfl) rfl (by omega)) ?_
  refine oq (op_ldw (v := .pointer (some ⟨q, 0, none⟩)) sc_137 (rds_row 4 rfl rfl) rfl (by omega) (congrArg (fun q => some (Value.pointer q)) hae)) ?_
  refine Zr ?_
  refine oq (op_lda (L := voteC _) 1 ag_84 rfl rfl (voteC_ta _) (by simp [voteC_len])) ?_
  refine Zl ?_
  refine Z78 ?_
  refine Zk ?_
  rw [hlv]
  exact px_rv2 rfl (rv_cella 0 ag_84 rfl rfl (voteC_ta _) (by simp [voteC_len])) (rv_tmp (v := .bool _) rfl) (fun _ s => Sat.tabMk hw rfl rfl (((((Sat.ptrs_back (F := VoteObj) (ps := ps) (vs := t.latest) (i := who.toNat) (((((((s.del 0).pull 5).pull 5).pull 5).pull 3).pull 5).pull 5) hvq haq).pull 4).pull 4).pull 4).pull 4)) ⟨rfl, rfl⟩
 have hlv : t.vote who = none := TabS.vote_none (bool_not_true hv)
 refine Zg ?_
 refine Z4 ?_
 refine Zs ?_
 refine oi (os_call cb_72 rfl (fun w s => is_calls _ _ _ _ _ _ _ _  s )) ?_; rintro _ _ ⟨rfl, rfl⟩; have his : (decide (0 ≤ who) && decide (who < (ps.length : Int))) = t.isV who := by unfold TabS.isV; rw [hal]
 refine Z3e ?_
 refine Z5 ?_
 refine ol_split 10 rfl (fun hb3 => ?_) (fun hb3 => ?_)
 ·have hp3 := hb3
  (try simp only [bn] at hp3)
  refine Z2p ?_
  refine Z2p ?_
  refine Z2p ?_
  refine Z2p ?_
  refine Z4j ?_
  refine Z2b ?_
  refine Z0 ?_
  refine oq (op_build (L := voteC _) (vs := []) bB_84 rfl trivial rfl) ?_
  refine Zs ?_
  refine Z78 ?_
  refine Zv ?_
  rw [hlv]
  exact Zbt
 have hp3 := hb3
 (try simp only [bn] at hp3)
 exact absurd hb3 (by rw [his, bool_not_true hv]; decide)

set_option maxRecDepth 100000 in
theorem Counts_calls {w0 w : World} {l : List HProp} (p : Nat) (t : TabS) (who : Int) (hs : Sat w0 w ((TabObj p t) :: l))  :
  Calls Try.prog 40 #[.pointer (some ⟨p, 0, none⟩), .int .i64 who] w (Ret w0 fun r l' => r = .bool (t.counts who) ∧ l' = TabObj p t :: l) := by
 obtain ⟨a1, c1, a2, c2, b, ps, hw, hal, hs⟩ := hs.tabOpen
 unfold TabParts at hs; simp only [List.cons_append, List.nil_append] at hs
 have hs1 := hw.s1; have hs2 := hw.s2; have hn1 := hw.n1; have hlo := hw.lo
 refine calls_enter Try.func40 rfl rfl rfl hs ?_
 refine Z0 ?_
 refine Zb ?_
 refine Zg ?_
 refine Z4 ?_
 refine oi (os_call cb_72 rfl (fun w s => is_calls _ _ _ _ _ _ _ _  s )) ?_; rintro _ _ ⟨rfl, rfl⟩
 refine Z5 ?_
 refine ol_split 8 rfl (fun hb1 => ?_) (fun hb1 => ?_)
 ·have hp1 := hb1
  (try simp only [bn] at hp1)
  have hv : t.isV who = true := by unfold TabS.isV; rw [← hal]; exact hb1
  obtain ⟨hv1, hv2⟩ := TabS.isV_iff.1 hv
  refine Z50 ?_
  refine Z51 ?_
  refine ol_q (wn_some rfl rfl rfl hb1 rfl) (op_field fld_136_2 rfl) rfl ?_
  refine ol_q (wn_some rfl rfl rfl hb1 rfl) (op_ld 0 sc_133 rfl rfl rfl) rfl ?_
  refine Z2q ?_
  refine ol_q (wn_some rfl rfl rfl hb1 rfl) (op_index _ sB_133 rfl rfl (Int.toNat_of_nonneg (by omega)).symm (rds_row 2 rfl rfl) rfl (by omega)) rfl ?_
  refine ol_q (wn_some rfl rfl rfl hb1 rfl) (op_ldw sc_4 (rds_row 2 rfl rfl) rfl (by omega) rfl) rfl ?_
  refine ol_q (wn_some rfl rfl rfl hb1 rfl) (op_not rfl) rfl ?_
  refine Z20 ?_
  refine Zk ?_
  exact px_ret1 rfl (v := .bool _) (l' := TabObj p t :: l) rfl (fun _ s => Sat.tabMk hw rfl rfl s) ⟨congrArg Value.bool (by unfold TabS.counts; rw [hv]; simp [List.getD_eq_getElem?_getD, show who.toNat < t.out.length by omega]), rfl⟩
 have hp1 := hb1
 (try simp only [bn] at hp1)
 have hv : t.isV who = false := by unfold TabS.isV; rw [← hal]; exact hb1
 refine Z3o ?_
 refine Z3o ?_
 refine Z21 ?_
 refine Zk ?_
 exact px_ret1 rfl (v := .bool _) (l' := TabObj p t :: l) rfl (fun _ s => Sat.tabMk hw rfl rfl s) ⟨congrArg Value.bool (by unfold TabS.counts; rw [hv]; rfl), rfl⟩

set_option maxRecDepth 100000 in
theorem Marks_calls {w0 w : World} {l : List HProp} (p : Nat) (t : TabS) (hs : Sat w0 w ((TabObj p t) :: l))  :
  Calls Try.prog 42 #[.pointer (some ⟨p, 0, none⟩)] w (Ret w0 fun r l' => r = .int .i64 t.first.length ∧ l' = TabObj p t :: l) := by
 obtain ⟨a1, c1, a2, c2, b, ps, hw, hal, hs⟩ := hs.tabOpen
 unfold TabParts at hs; simp only [List.cons_append, List.nil_append] at hs
 have hs1 := hw.s1; have hs2 := hw.s2; have hn1 := hw.n1; have hlo := hw.lo
 refine calls_enter Try.func42 rfl rfl rfl hs ?_
 refine Z0 ?_
 refine Z5a ?_
 refine oq (op_eqnil Try.underlying79 rfl rfl) ?_
 refine Z2c ?_
 refine Z1v ?_
 refine oq (op_field fld_136_3 rfl) ?_
 refine oq (op_ld 0 sc_134 rfl rfl rfl) ?_
 refine oq (op_len_map 3 Try.underlying134 rfl rfl) ?_
 refine Zp ?_
 exact px_ret1 rfl (v := .int _ _) (l' := TabObj p t :: l) rfl (fun _ s => Sat.tabMk hw rfl rfl s) ⟨rfl, rfl⟩

theorem mem_entry {es : Array MapEntry} {kvs : List ((Int × Int) × Root)} (hes : es.toList.map (fun e : MapEntry => (e.key, e.val)) = kvs.map (fun p => (EK2 p.1, EVR p.2))) {e : MapEntry} (he : e ∈ es.toList) : ∃ p : (Int × Int) × Root, p ∈ kvs ∧ e.key = EK2 p.1 ∧ e.val = EVR p.2 := by
 have h1 : (e.key, e.val) ∈ es.toList.map (fun e : MapEntry => (e.key, e.val)) := List.mem_map.2 ⟨e, he, rfl⟩
 rw [hes] at h1
 obtain ⟨p, hp, hq⟩ := List.mem_map.1 h1
 simp only [Prod.mk.injEq] at hq
 exact ⟨p, hp, hq.1.symm, hq.2.symm⟩
theorem push_contains {a : Array Nat} {x y : Nat} : (a.push x).contains y = true ↔ a.contains y = true ∨ y = x := by
 simp [Array.contains_iff_mem, Array.mem_push]
theorem unseen_lt {es : Array MapEntry} {seen : Array Nat} {e : MapEntry} (he : e ∈ es.toList) (hs : seen.contains e.born = false) :
  (es.toList.filter fun x => !(seen.push e.born).contains x.born).length < (es.toList.filter fun x => !seen.contains x.born).length := by
 have h1 : (es.toList.filter fun x => !(seen.push e.born).contains x.born) = (es.toList.filter fun x => !seen.contains x.born).filter fun x => decide (x.born ≠ e.born) := by
  rw [List.filter_filter]
  congr 1
  funext x
  rw [Bool.eq_iff_iff]
  simp [Array.mem_push, not_or, and_comm]
 rw [h1]
 have hmem : e ∈ es.toList.filter fun x => !seen.contains x.born := List.mem_filter.2 ⟨he, by rw [hs]; rfl⟩
 generalize (es.toList.filter fun x => !seen.contains x.born) = L at hmem
 clear h1 hs he
 induction L with
 | nil => cases hmem
 | cons a r ih =>
  rcases List.mem_cons.1 hmem with h | h
  ·subst h
   rw [List.filter_cons_of_neg (by simp)]
   exact Nat.lt_succ_of_le (List.length_filter_le _ _)
  ·by_cases ha : a.born = e.born
   ·rw [List.filter_cons_of_neg (by simpa using ha)]
    exact Nat.lt_succ_of_le (List.length_filter_le _ _)
   ·rw [List.filter_cons_of_pos (by simpa using ha)]
    exact Nat.succ_lt_succ (ih h)
theorem unseen_lt2 {es es2 : Array MapEntry} {seen : Array Nat} {e : MapEntry} {k : Value} (he : e ∈ es.toList) (hs : seen.contains e.born = false) (hin : ∀ x ∈ es2.toList, x ∈ es.toList ∧ x.key ≠ k) (hsub : es2.toList.Sublist es.toList) :
  (es2.toList.filter fun x => !(seen.push e.born).contains x.born).length < (es.toList.filter fun x => !seen.contains x.born).length :=
 Nat.lt_of_le_of_lt (hsub.filter _).length_le (unseen_lt he hs)
theorem filter_filter_key {V : Type} (kvs : List ((Int × Int) × V)) (k : Int × Int) (g : Int × Int → Bool) (hk : g k = false) : ((kvs.filter fun p => decide (p.1 ≠ k)).filter fun p => g p.1) = kvs.filter fun p => g p.1 := by
 rw [List.filter_filter]
 apply List.filter_congr
 intro p _
 by_cases hp : p.1 = k
 ·simp [hp, hk]
 ·simp [hp]

set_option maxRecDepth 100000 in
set_option maxHeartbeats 1000000 in
theorem Forget_calls {w0 w : World} {l : List HProp} (p : Nat) (t : TabS) (slot : Int) (hs : Sat w0 w ((TabObj p t) :: l)) (hs0 : slot ≤ 9223372036854775807) :
  Calls Try.prog 92 #[.pointer (some ⟨p, 0, none⟩), .int .i64 slot] w (Ret w0 fun r l' => r = .tuple #[] ∧ l' = TabObj p (t.forget slot) :: l) := by
 obtain ⟨a1, c1, a2, c2, b, ps, hw, hal, hs⟩ := hs.tabOpen
 unfold TabParts at hs; simp only [List.cons_append, List.nil_append] at hs
 have hs1 := hw.s1; have hs2 := hw.s2; have hn1 := hw.n1; have hlo := hw.lo
 refine calls_enter Try.func92 rfl rfl rfl hs ?_
 refine Z1q ?_
 refine oq (op_eqnil Try.underlying79 rfl rfl) ?_
 refine Zbe ?_
 refine ol_q (wn_some rfl rfl rfl rfl rfl) (op_lt rfl rfl) rfl ?_
 refine Z6v ?_
 refine Z1 ?_
 refine cd_cond rfl (fun hb1 => ?_) (fun hb1 => ?_)
 ·have hp1 := hb1
  (try simp only [bn] at hp1)
  refine cd_ret ?_
  refine Z13 ?_
  exact px_ret0 (l' := TabObj p (t.forget slot) :: l) rfl (fun _ s => by rw [show t.forget slot = t from by unfold TabS.forget; rw [if_pos (by omega)]]; exact Sat.tabMk hw rfl rfl s) ⟨rfl, rfl⟩
 have hp1 := hb1
 (try simp only [bn] at hp1)
 refine Za ?_
 refine cd_pull3 ?_
 refine cd_mapopen ?_; intro es ck hes hbn
 refine Z1v ?_
 refine oq (op_field fld_136_3 rfl) ?_
 refine oq (op_ld 1 sc_134 rfl rfl rfl) ?_
 refine oi (os_range Try.underlying134 rfl) ?_; rintro _ _ ⟨it1, rfl, rfl⟩
 refine Z48 ?_
 refine cd_loop2 (α := Array MapEntry × Array Nat × List ((Int × Int) × Root)) [(4, 4), (16, 33)] (fun x => []) (fun x => Blk b (.map x.1 ck) :: Blk it1 (.mapIter (some b) ck x.2.1 ck) :: Blk p (.cells #[.int .i64 t.slots, .slice a1 ps.length c1, .slice a2 t.out.length c2, .map (some b)] 136 (0, 0)) :: Row 137 encPtr (.slice a1 ps.length c1) ps :: Row 4 encBool (.slice a2 t.out.length c2) t.out :: PtrsO VoteObj ps t.latest :: l) (fun x => x.1.toList.map (fun e : MapEntry => (e.key, e.val)) = x.2.2.map (fun p => (EK2 p.1, EVR p.2)) ∧ Born x.1 ck ∧ (x.2.2.map (·.1)).Nodup ∧ (∀ p ∈ x.2.2, p ∈ t.first) ∧ (x.2.2.filter fun p => decide (slot / t.slots ≤ p.1.2)) = (t.first.filter fun p => decide (slot / t.slots ≤ p.1.2)) ∧ (∀ e ∈ x.1.toList, x.2.1.contains e.born = true → ∀ m : Int × Int, e.key = EK2 m → slot / t.slots ≤ m.2)) (fun x => (x.1.toList.filter fun e => !x.2.1.contains e.born).length) (es, #[], t.first) ⟨hes, hbn, hw.nd, fun _ h => h, rfl, fun e _ h => by simp at h⟩ trivial (fun _ s => ((((((s.pull 5).pull 5).pull 5).pull 5).pull 4).pull 5)) ?_
 rintro ⟨es, seen, kvs⟩ ⟨hes, hbn, hnd, hsub, hfil, hsn⟩ f; dsimp only at hes hbn hnd hsub hfil hsn ⊢
 refine Z0 ?_
 refine Z9 ?_
 refine Z9 ?_
 refine oi (os_next hbn rfl) ?_; rintro _ _ (⟨rfl, hall, rfl⟩ | ⟨e, he, hse, rfl, rfl⟩)
 ·
  refine Z52 ?_
  refine Z39 ?_
  refine cd_cond_f rfl rfl ?_
  refine Z6m ?_
  have hwf := hw.forget slot
  have hk : kvs = t.first.filter fun p => decide (slot / t.slots ≤ p.1.2) := by
   rw [← hfil]
   refine (List.filter_eq_self.2 fun q hq => ?_).symm
   have h1 : (EK2 q.1, EVR q.2) ∈ kvs.map (fun p => (EK2 p.1, EVR p.2)) := List.mem_map.2 ⟨q, hq, rfl⟩
   rw [← hes] at h1
   obtain ⟨e, he, hee⟩ := List.mem_map.1 h1
   simp only [Prod.mk.injEq] at hee
   exact decide_eq_true (hsn e he (hall e he) _ hee.1)
  have ef : t.forget slot = { t with first := kvs } := by unfold TabS.forget; rw [if_neg (by omega), hk]
  rw [ef] at hwf ⊢
  exact px_end0 (l' := TabObj p { t with first := kvs } :: l) rfl (fun _ s => Sat.tabMk (t := { t with first := kvs }) hwf rfl rfl ((((((Sat.mapMk (EK := EK2) (EV := EVR) (kvs := kvs) (s.del 1) hbn hes).pull 4).pull 1).pull 4).pull 4).pull 4)) ⟨rfl, rfl⟩
 obtain ⟨⟨⟨ka, ke⟩, kr⟩, hmem, hek, hev⟩ := mem_entry hes he; obtain ⟨ek0, ev0, bo⟩ := e; dsimp only at hek hev hse ⊢; subst hek hev
 have hrg := hw.rg _ (hsub _ hmem); dsimp only at hrg
 refine Z52 ?_
 refine Z39 ?_
 refine Z5e ?_
 refine Za ?_
 refine cd_block ?_
 refine Z0 ?_
 refine oq (op_entry 0 1 ⟨EK2 (ka, ke), EVR kr, bo⟩ hbn rfl rfl rfl (by simp) he) ?_
 refine oq (op_extract (v := .agg _) rfl rfl) ?_
 refine oi (os_alloc zB_157 rfl) ?_; rintro _ _ ⟨bx2, rfl, rfl⟩
 refine oN (os_storea (L' := [_, _]) ag_157 rfl rfl rfl (by simp [Value.oneCell']) rfl (Free.zero _) rfl) ?_; rintro _ _ ⟨rfl, rfl⟩
 refine Z39 ?_
 refine Z6u ?_
 refine rg_q (wn_none rfl) (op_field fld_157_1 rfl) rfl rfl ?_
 refine Z8i ?_
 refine Ze ?_
 refine Z6 ?_
 refine rg_q (wn_none rfl) (op_field fld_136_0 rfl) rfl rfl ?_
 refine rg_q (wn_none rfl) (op_ld 3 sc_3 rfl rfl rfl) rfl rfl ?_
 refine Zav ?_
 refine Z53 ?_
 refine Z1a ?_
 refine cd_cond rfl (fun hb2 => ?_) (fun hb2 => ?_)
 ·have hp2 := hb2
  (try simp only [bn] at hp2)
  refine cd_drawt (M := []) mx [] 5 (by kernel_rfl) rfl rfl ?_
  dsimp only [List.take_succ_cons, List.take_zero, List.drop_succ_cons, List.drop_zero]
  refine Z6 ?_
  refine Z9t ?_
  refine rg_q (wn_none rfl) (op_ld 3 sc_134 rfl rfl rfl) rfl rfl ?_
  refine rg_q (wn_none rfl) (op_lda 0 ag_157 rfl rfl (by rfl) (by simp)) rfl rfl ?_
  refine rg_tail0 ?_
  refine Z9 ?_
  refine oN (os_delete (ka, ke) rfl Try.underlying134 (keyok2 keyed_mark mk2_157 _ (by unfold I64; dsimp only; omega) (by unfold I64; dsimp only; omega) (fun p hp => by have := hw.rg p (hsub p hp); unfold I64; omega) hnd) hbn hes rfl rfl) ?_; rintro _ _ ⟨rfl, es2, rfl, he2, hbn2, hin, hsl⟩
  refine ol_nil ?_
  refine px_blockN ?_
  have hlt : ¬ slot / t.slots ≤ ke := by omega
  refine px_loop2 (es2, seen.push bo, kvs.filter fun p => decide (p.1 ≠ (ka, ke))) ⟨he2, hbn2, hnd.sublist ((List.filter_sublist (l := kvs)).map _), fun p hp => hsub p (List.mem_filter.1 hp).1, (filter_filter_key kvs (ka, ke) (fun k => decide (slot / t.slots ≤ k.2)) (by simpa using hlt)).trans hfil, fun x hx hs m hm => (push_contains.1 hs).elim (fun h => hsn x (hin x hx).1 h m hm) (fun h => absurd (congrArg MapEntry.key (born_inj hbn (hin x hx).1 he h)) (hin x hx).2)⟩ (unseen_lt2 he hse hin hsl) trivial ?_ (fun _ s => (s.del 1))
  exact Z2
 have hp2 := hb2
 (try simp only [bn] at hp2)
 refine cd_skip ?_
 refine px_blockN ?_
 have hge : slot / t.slots ≤ ke := by omega
 refine px_loop2 (es, seen.push bo, kvs) ⟨hes, hbn, hnd, hsub, hfil, fun x hx hs m hm => (push_contains.1 hs).elim (fun h => hsn x hx h m hm) (fun h => by have h1 := born_inj hbn hx he h; subst h1; have h2 := EK2_inj _ _ hm; subst h2; exact hge)⟩ (unseen_lt he hse) trivial ?_ (fun _ s => (s.del 0))
 exact Z2
end Go.SL

set_option linter.unusedVariables false
set_option linter.unusedSimpArgs false
namespace Go.SL
open Go.Proofs

def toFirst (p : (Int × Int) × Root) : First := ⟨p.1.1, p.1.2, p.2⟩
structure RTabOf (t : TabS) (N : Nat) (F : List First) (Lv : List Vote) (Hs Ou : List Bool) : Prop where
 n : N = t.latest.length
 f : F = t.first.map toFirst
 l : Lv = t.latest.map fun o => o.getD Vote.zero
 h : Hs = t.latest.map fun o => o.isSome
 o : Ou = t.out
/-- the reference's table: all that it owns -/
def RTabObj (p : Nat) (t : TabS) : HProp := ex fun x : (Option Addr × Nat × Option Addr × Nat) × (Option Addr × Nat × Option Addr × Nat) × (Nat × List First × List Vote × List Bool × List Bool) =>
 match x with
 | ((a1, c1, a2, c2), (a3, c3, a4, c4), (N, F, Lv, Hs, Ou)) => stars (pr (t.WF ∧ RTabOf t N F Lv Hs Ou) :: Blk p (.cells #[.int .i64 (N : Int), .int .i64 t.slots, .slice a1 F.length c1, .slice a2 Lv.length c2, .slice a3 Hs.length c3, .slice a4 Ou.length c4] 153 (0, 0)) :: Row 155 encFirst (.slice a1 F.length c1) F :: Row 84 encVote (.slice a2 Lv.length c2) Lv :: Row 4 encBool (.slice a3 Hs.length c3) Hs :: Row 4 encBool (.slice a4 Ou.length c4) Ou :: [])
theorem Sat.rtabOpen {w0 w : World} {l : List HProp} {p : Nat} {t : TabS} (s : Sat w0 w (RTabObj p t :: l)) : ∃ a1 c1 a2 c2 a3 c3 a4 c4 N F Lv Hs Ou, t.WF ∧ RTabOf t N F Lv Hs Ou ∧ Sat w0 w (Blk p (.cells #[.int .i64 (N : Int), .int .i64 t.slots, .slice a1 F.length c1, .slice a2 Lv.length c2, .slice a3 Hs.length c3, .slice a4 Ou.length c4] 153 (0, 0)) :: Row 155 encFirst (.slice a1 F.length c1) F :: Row 84 encVote (.slice a2 Lv.length c2) Lv :: Row 4 encBool (.slice a3 Hs.length c3) Hs :: Row 4 encBool (.slice a4 Ou.length c4) Ou :: l) := by
 obtain ⟨⟨⟨a1, c1, a2, c2⟩, ⟨a3, c3, a4, c4⟩, ⟨N, F, Lv, Hs, Ou⟩⟩, s⟩ := Sat.ex_iff.1 s
 have s1 := Sat.stars_iff.1 s
 obtain ⟨hw, s2⟩ := Sat.pr_iff.1 s1
 exact ⟨a1, c1, a2, c2, a3, c3, a4, c4, N, F, Lv, Hs, Ou, hw.1, hw.2, s2⟩
theorem Sat.rtabMk {w0 w : World} {l : List HProp} {p : Nat} {t : TabS} {a1 a2 a3 a4 : Option Addr} {c1 c2 c3 c4 N m1 m2 m3 m4 : Nat} {F : List First} {Lv : List Vote} {Hs Ou : List Bool} (hw : t.WF) (hr : RTabOf t N F Lv Hs Ou)
  (h1 : m1 = F.length) (h2 : m2 = Lv.length) (h3 : m3 = Hs.length) (h4 : m4 = Ou.length) (s : Sat w0 w (Blk p (.cells #[.int .i64 (N : Int), .int .i64 t.slots, .slice a1 m1 c1, .slice a2 m2 c2, .slice a3 m3 c3, .slice a4 m4 c4] 153 (0, 0)) :: Row 155 encFirst (.slice a1 m1 c1) F :: Row 84 encVote (.slice a2 m2 c2) Lv :: Row 4 encBool (.slice a3 m3 c3) Hs :: Row 4 encBool (.slice a4 m4 c4) Ou :: l)) : Sat w0 w (RTabObj p t :: l) := by
 subst h1 h2 h3 h4
 exact Sat.ex_iff.2 ⟨((a1, c1, a2, c2), (a3, c3, a4, c4), (N, F, Lv, Hs, Ou)), Sat.stars_iff.2 (Sat.pr_iff.2 ⟨⟨hw, hr⟩, s⟩)⟩
theorem TabS.WF.first_len {t : TabS} (h : t.WF) : t.first.length ≤ 64 * 1073741825 := by
 have h1 := nodup_le (64 * 1073741825) ((t.first.map (·.1)).map fun k => k.1.toNat * 1073741825 + k.2.toNat) (by
  refine List.pairwise_map.2 ?_
  refine (h.nd.imp_of_mem ?_)
  intro a b ha hb hne he
  obtain ⟨p, hp, rfl⟩ := List.mem_map.1 ha
  obtain ⟨q, hq, rfl⟩ := List.mem_map.1 hb
  have h2 := h.rg p hp
  have h3 := h.rg q hq
  exact hne (Prod.ext (by omega) (by omega))) (by
  intro x hx
  obtain ⟨k, hk, rfl⟩ := List.mem_map.1 hx
  obtain ⟨p, hp, rfl⟩ := List.mem_map.1 hk
  have h2 := h.rg p hp
  omega)
 simpa using h1
theorem first_look {t : TabS} (hw : t.WF) {F : List First} (hF : F = t.first.map toFirst) {i : Nat} (hi : i < F.length) {w e : Int} (h1 : F[i].who = w) (h2 : F[i].epoch = e) : look t.first (w, e) = some F[i].target := by
 subst hF h1 h2
 have hi' : i < t.first.length := by simpa using hi
 refine look_some hw.nd ?_
 have : t.first[i] ∈ t.first := List.getElem_mem hi'
 have e : (t.first.map toFirst)[i] = toFirst t.first[i] := List.getElem_map ..
 rw [e]
 exact this
theorem first_none {t : TabS} {F : List First} (hF : F = t.first.map toFirst) {w e : Int} (h : ∀ j (hj : j < F.length), ¬ (F[j].who = w ∧ F[j].epoch = e)) : look t.first (w, e) = none := by
 subst hF
 refine look_none_iff.2 fun p hp hk => ?_
 obtain ⟨j, hj, rfl⟩ := List.mem_iff_getElem.1 hp
 refine h j (by simpa using hj) ?_
 simp [toFirst, hk]

set_option maxRecDepth 100000 in
set_option maxHeartbeats 1000000 in
theorem RIs_calls {w0 w : World} {l : List HProp} (p : Nat) (N : Nat) (x1 x2 x3 x4 x5 : Value) (who : Int) (hs : Sat w0 w ((Blk p (.cells #[.int .i64 (N : Int), x1, x2, x3, x4, x5] 153 (0, 0))) :: l))  :
  Calls Try.prog 105 #[.pointer (some ⟨p, 0, none⟩), .int .i64 who] w (Ret w0 fun v l' => v = .bool (decide (0 ≤ who) && decide (who < N)) ∧ l' = Blk p (.cells #[.int .i64 (N : Int), x1, x2, x3, x4, x5] 153 (0, 0)) :: l) := by
 refine calls_enter Try.func105 rfl rfl rfl hs ?_
 refine Z0 ?_
 refine Zb ?_
 refine Z18 ?_
 refine Z5h ?_
 refine Z5 ?_
 refine ol_split 7 rfl (fun hb1 => ?_) (fun hb1 => ?_)
 ·have hp1 := hb1
  (try simp only [bn] at hp1)
  refine Z2q ?_
  refine Z50 ?_
  refine Z51 ?_
  refine ol_q (wn_some rfl rfl rfl hb1 rfl) (op_field fld_153_0 rfl) rfl ?_
  refine ol_q (wn_some rfl rfl rfl hb1 rfl) (op_ld 0 sc_3 rfl rfl rfl) rfl ?_
  refine Z5x ?_
  refine Z20 ?_
  refine Zk ?_
  exact Z9p
 have hp1 := hb1
 (try simp only [bn] at hp1)
 refine Z3o ?_
 refine Z69 ?_
 refine Z21 ?_
 refine Zk ?_
 exact Z9p

set_option maxRecDepth 100000 in
set_option maxHeartbeats 1000000 in
theorem RNew_calls {w0 w : World} {l : List HProp} (n sl : Int) (hs : Sat w0 w (l))  :
  Calls Try.prog 90 #[.int .i64 n, .int .i64 sl] w (Ret w0 fun v l' => (v = .tuple #[.pointer none, .bool false] ∧ l' = l ∧ (n < 1 ∨ 64 < n ∨ sl < 1 ∨ 32 < sl)) ∨ ∃ p, v = .tuple #[.pointer (some ⟨p, 0, none⟩), .bool true] ∧ (1 ≤ n ∧ n ≤ 64 ∧ 1 ≤ sl ∧ sl ≤ 32) ∧ l' = RTabObj p (TabS.new n.toNat sl) :: l) := by
 refine calls_enter Try.func90 rfl rfl rfl hs ?_
 refine Z31 ?_
 refine Zb ?_
 refine Zf ?_
 refine Z4y ?_
 refine Z5 ?_
 refine ol_split 8 rfl (fun hb1 => ?_) (fun hb1 => ?_)
 ·have hp1 := hb1
  (try simp only [bn] at hp1)
  refine Z69 ?_
  refine Z20 ?_
  refine Z3h ?_
  refine Z3h ?_
  refine Z3p ?_
  refine Zv ?_
  exact Z9y
 have hp1 := hb1
 (try simp only [bn] at hp1)
 refine Z2q ?_
 refine Z8f ?_
 refine Z21 ?_
 refine Z5 ?_
 refine ol_split 12 rfl (fun hb2 => ?_) (fun hb2 => ?_)
 ·have hp2 := hb2
  (try simp only [bn] at hp2)
  refine Z1g ?_
  refine Z37 ?_
  refine Z3h ?_
  refine Z3p ?_
  refine Zv ?_
  exact Z9y
 have hp2 := hb2
 (try simp only [bn] at hp2)
 refine Z4i ?_
 refine Z8g ?_
 refine Z2v ?_
 refine Z5 ?_
 refine ol_split 16 rfl (fun hb3 => ?_) (fun hb3 => ?_)
 ·have hp3 := hb3
  (try simp only [bn] at hp3)
  refine Z2p ?_
  refine Z4j ?_
  refine Z3p ?_
  refine Zv ?_
  exact Z9y
 have hp3 := hb3
 (try simp only [bn] at hp3)
 refine Z5f ?_
 refine Z5t ?_
 refine Z5g ?_
 refine Z1 ?_
 refine cd_cond rfl (fun hb4 => ?_) (fun hb4 => ?_)
 ·have hp4 := hb4
  (try simp only [bn] at hp4)
  refine Z31 ?_
  refine Zv ?_
  exact Z9y
 have hp4 := hb4
 (try simp only [bn] at hp4)
 refine Zn ?_
 refine cd_drawe (M := []) mx [3, 5, 7, 9] ?_
 refine Z6h ?_
 refine Z6t ?_
 refine e_q 2 rfl (wn_none rfl) (op_move (v := .int _ _) rfl) ?_
 refine e_q 4 rfl (wn_none rfl) (op_move (v := .int _ _) rfl) ?_
 refine e_q 6 rfl (wn_none rfl) (op_move (v := .int _ _) rfl) ?_
 refine et_3 (i1 := 3) (i2 := 5) (i3 := 7) (by kernel_rfl) ?_ ?_ ?_
 ·
  refine ei_i rfl rfl (wn_none rfl) (os_make (E := encVote) (_) (Vote.zero) sB_151 zv_84 rfl rfl rfl (Int.toNat_of_nonneg (by omega)).symm (by omega) (by unfold maxLen; omega)) rfl ?_; rintro _ _ ⟨ao1, rfl, rfl⟩; refine ⟨[_], rfl, ?_⟩
  refine et_2 (i1 := 5) (i2 := 7) (by kernel_rfl) ?_ ?_
  ·
   refine Z73 ?_; intro ao2
   refine Zt ?_
   refine Z77 ?_; intro ao3
   refine Z79 ?_
   refine Z26 ?_
   refine Z42 ?_; intro bx1
   refine Z7a ?_
   refine Z7b ?_
   refine Z1t ?_
   obtain ⟨k, rfl⟩ : ∃ k : Nat, n = k := ⟨n.toNat, by omega⟩
   refine px_ret2 rfl (v1 := .pointer _) (v2 := .bool _) (l' := RTabObj _ (TabS.new k sl) :: l) rfl rfl (fun _ s => ?_) (.inr ⟨_, rfl, by omega, rfl⟩)
   have s2 := ((((s.pull 1).pull 2).pull 3).pull 3)
   exact Z7c
  refine Z73 ?_; intro ao4
  refine Z6x ?_
  refine Z77 ?_; intro ao5
  refine Z79 ?_
  refine Z26 ?_
  refine Z42 ?_; intro bx2
  refine Z7a ?_
  refine Z7b ?_
  refine Z1t ?_
  obtain ⟨k, rfl⟩ : ∃ k : Nat, n = k := ⟨n.toNat, by omega⟩
  refine px_ret2 rfl (v1 := .pointer _) (v2 := .bool _) (l' := RTabObj _ (TabS.new k sl) :: l) rfl rfl (fun _ s => ?_) (.inr ⟨_, rfl, by omega, rfl⟩)
  have s2 := ((((s.pull 2).pull 2).pull 3).pull 3)
  exact Z7c
 ·
  refine Zau ?_; intro ao6
  refine et_2 (i1 := 3) (i2 := 7) (by kernel_rfl) ?_ ?_
  ·
   refine Zbu ?_; intro ao7
   refine Zt ?_
   refine Z77 ?_; intro ao8
   refine Z79 ?_
   refine Z26 ?_
   refine Z42 ?_; intro bx3
   refine Z7a ?_
   refine Z7b ?_
   refine Z1t ?_
   obtain ⟨k, rfl⟩ : ∃ k : Nat, n = k := ⟨n.toNat, by omega⟩
   refine px_ret2 rfl (v1 := .pointer _) (v2 := .bool _) (l' := RTabObj _ (TabS.new k sl) :: l) rfl rfl (fun _ s => ?_) (.inr ⟨_, rfl, by omega, rfl⟩)
   have s2 := ((((s.pull 1).pull 3).pull 3).pull 3)
   exact Z7c
  refine Z73 ?_; intro ao9
  refine et_1 (i := 3) (by kernel_rfl) ?_
  refine Zbv ?_; intro ao10
  refine Z79 ?_
  refine Z26 ?_
  refine Z42 ?_; intro bx4
  refine Z7a ?_
  refine Z7b ?_
  refine Z1t ?_
  obtain ⟨k, rfl⟩ : ∃ k : Nat, n = k := ⟨n.toNat, by omega⟩
  refine px_ret2 rfl (v1 := .pointer _) (v2 := .bool _) (l' := RTabObj _ (TabS.new k sl) :: l) rfl rfl (fun _ s => ?_) (.inr ⟨_, rfl, by omega, rfl⟩)
  have s2 := ((((s.pull 2).pull 3).pull 3).pull 3)
  exact Z7c
 refine Zau ?_; intro ao11
 refine et_2 (i1 := 3) (i2 := 5) (by kernel_rfl) ?_ ?_
 ·
  refine Zbu ?_; intro ao12
  refine Z6x ?_
  refine Z77 ?_; intro ao13
  refine Z79 ?_
  refine Z26 ?_
  refine Z42 ?_; intro bx5
  refine Z7a ?_
  refine Z7b ?_
  refine Z1t ?_
  obtain ⟨k, rfl⟩ : ∃ k : Nat, n = k := ⟨n.toNat, by omega⟩
  refine px_ret2 rfl (v1 := .pointer _) (v2 := .bool _) (l' := RTabObj _ (TabS.new k sl) :: l) rfl rfl (fun _ s => ?_) (.inr ⟨_, rfl, by omega, rfl⟩)
  have s2 := ((((s.pull 3).pull 2).pull 3).pull 3)
  exact Z7c
 refine Z73 ?_; intro ao14
 refine et_1 (i := 3) (by kernel_rfl) ?_
 refine Zbv ?_; intro ao15
 refine Z79 ?_
 refine Z26 ?_
 refine Z42 ?_; intro bx6
 refine Z7a ?_
 refine Z7b ?_
 refine Z1t ?_
 obtain ⟨k, rfl⟩ : ∃ k : Nat, n = k := ⟨n.toNat, by omega⟩
 refine px_ret2 rfl (v1 := .pointer _) (v2 := .bool _) (l' := RTabObj _ (TabS.new k sl) :: l) rfl rfl (fun _ s => ?_) (.inr ⟨_, rfl, by omega, rfl⟩)
 have s2 := s
 exact Z7c

set_option maxRecDepth 100000 in
set_option maxHeartbeats 1000000 in
theorem RTake_calls {w0 w : World} {l : List HProp} (p : Nat) (t : TabS) (v : Vote) (hs : Sat w0 w ((RTabObj p t) :: l))  :
  Calls Try.prog 91 #[.pointer (some ⟨p, 0, none⟩), .agg (voteC v).toArray] w (Ret w0 fun r l' => r = .int .i64 (t.take v).1 ∧ l' = RTabObj p (t.take v).2 :: l) := by
 obtain ⟨a1, c1, a2, c2, a3, c3, a4, c4, N, F, Lv, Hs, Ou, hw, hR, hs⟩ := hs.rtabOpen
 have hs1 := hw.s1; have hs2 := hw.s2; have hn1 := hw.n1; have hlo := hw.lo; have hN := hR.n; have hFl : F.length ≤ 64 * 1073741825 := by rw [hR.f, List.length_map]; exact hw.first_len
 have hLl : Lv.length = N := by rw [hR.l, hR.n, List.length_map]
 have hHl : Hs.length = N := by rw [hR.h, hR.n, List.length_map]
 have hOl : Ou.length = N := by rw [hR.o, hR.n]; exact hlo
 refine calls_enter Try.func91 rfl rfl rfl hs ?_
 refine Z3z ?_; intro bx1
 refine Z5m ?_
 refine oq (op_ld 0 sc_3 rfl rfl (voteC_a0 _)) ?_
 refine Z9 ?_
 refine oi (os_call cb_105 rfl (fun w s => RIs_calls _ _ _ _ _ _ _ _  s )) ?_; rintro _ _ ⟨rfl, rfl⟩
 refine Z3e ?_
 refine Z5 ?_
 refine ol_split 13 rfl (fun hb1 => ?_) (fun hb1 => ?_)
 ·have hp1 := hb1
  (try simp only [bn] at hp1)
  have hv : t.isV v.who = false := by unfold TabS.isV; rw [← hN]; simpa only [Bool.not_eq_true'] using hb1
  refine Z4t ?_
  refine Z20 ?_
  refine Z5p ?_
  refine Z6s ?_
  refine Z6b ?_
  refine Z3w ?_
  have e : t.take v = (5, t) := by unfold TabS.take; rw [if_pos (by simp [*])]
  have hw2 := hw.take v
  rw [e] at hw2 ⊢
  exact Z9z
 have hp1 := hb1
 (try simp only [bn] at hp1)
 have hv : t.isV v.who = true := by unfold TabS.isV; rw [← hN]; simpa only [Bool.not_eq_false'] using hb1
 obtain ⟨hv1, hv2⟩ := TabS.isV_iff.1 hv
 refine ol_q (wn_some rfl rfl rfl hb1 rfl) (op_field fld_84_1 rfl) rfl ?_
 refine ol_q (wn_some rfl rfl rfl hb1 rfl) (op_ld 1 sc_3 rfl rfl (voteC_a1 _)) rfl ?_
 refine Z5x ?_
 refine Z21 ?_
 refine Z5 ?_
 refine ol_split 18 rfl (fun hb2 => ?_) (fun hb2 => ?_)
 ·have hp2 := hb2
  (try simp only [bn] at hp2)
  have hslot := of_decide_eq_true hb2
  refine Z1g ?_
  refine Z5s ?_
  refine Z37 ?_
  refine Z3w ?_
  have e : t.take v = (5, t) := by unfold TabS.take; rw [if_pos (by simp [*])]
  have hw2 := hw.take v
  rw [e] at hw2 ⊢
  exact Z9z
 have hp2 := hb2
 (try simp only [bn] at hp2)
 have hslot := of_decide_eq_false hb2
 refine ol_q (wn_some rfl rfl rfl hb2 rfl) (op_field fld_84_1 rfl) rfl ?_
 refine ol_q (wn_some rfl rfl rfl hb2 rfl) (op_ld 1 sc_3 rfl rfl (voteC_a1 _)) rfl ?_
 refine ol_q (wn_some rfl rfl rfl hb2 rfl) (op_gt rfl rfl) rfl ?_
 refine Z2v ?_
 refine Z1 ?_
 refine cd_cond rfl (fun hb3 => ?_) (fun hb3 => ?_)
 ·have hp3 := hb3
  (try simp only [bn] at hp3)
  have hslot2 := of_decide_eq_true hb3
  refine Z1y ?_
  have e : t.take v = (5, t) := by unfold TabS.take; rw [if_pos (by simp [*])]
  have hw2 := hw.take v
  rw [e] at hw2 ⊢
  exact Z9z
 have hp3 := hb3
 (try simp only [bn] at hp3)
 have hslot2 := of_decide_eq_false hb3
 have hcond : ¬ (t.isV v.who = false ∨ v.slot < 0 ∨ 1073741824 < v.slot) := by simp only [hv]; simp; omega
 have hep := ep_le (show 0 ≤ v.slot by omega) (show v.slot ≤ 1073741824 by omega) hs1
 refine Zn ?_
 refine Z1u ?_
 refine Z6 ?_
 refine rg_q (wn_none rfl) (op_field fld_153_5 rfl) rfl rfl ?_
 refine rg_q (wn_none rfl) (op_ld 0 sc_133 rfl rfl rfl) rfl rfl ?_
 refine Z1x ?_
 refine Z9s ?_
 refine Z8u ?_
 refine rg_q (wn_none rfl) (op_ldw sc_4 (rds_row 5 rfl rfl) rfl (by omega) rfl) rfl rfl ?_
 refine Z1a ?_
 refine cd_cond rfl (fun hb4 => ?_) (fun hb4 => ?_)
 ·have hp4 := hb4
  (try simp only [bn] at hp4)
  have ho : t.out.getD v.who.toNat false = true := by have h1 := hb4; simp only [hR.o] at h1; simpa [List.getD_eq_getElem?_getD, show v.who.toNat < t.out.length by omega] using h1
  refine Z1y ?_
  have e : t.take v = (4, t) := by unfold TabS.take; rw [if_neg hcond, if_pos ho]
  have hw2 := hw.take v
  rw [e] at hw2 ⊢
  exact Z9z
 have hp4 := hb4
 (try simp only [bn] at hp4)
 have ho : ¬ t.out.getD v.who.toNat false = true := by have h1 := hb4; simp only [hR.o] at h1; simpa [List.getD_eq_getElem?_getD, show v.who.toNat < t.out.length by omega] using h1
 refine Zn ?_
 refine Z6u ?_
 refine rg_q (wn_none rfl) (op_field fld_84_1 rfl) rfl rfl ?_
 refine rg_q (wn_none rfl) (op_ld 1 sc_3 rfl rfl (voteC_a1 _)) rfl rfl ?_
 refine Z6 ?_
 refine rg_q (wn_none rfl) (op_field fld_153_1 rfl) rfl rfl ?_
 refine Z8i ?_
 refine Zav ?_
 refine Z3q ?_
 refine Z1q ?_
 refine Zr ?_
 refine oq (op_field fld_153_2 rfl) ?_
 refine oq (op_ld 0 sc_150 rfl rfl rfl) ?_
 refine oq (op_len_slice Try.underlying150 rfl) ?_
 refine Z1l ?_
 refine cd_loop2 (α := Nat) [(4, 4), (7, 7), (43, 70)] (fun x => [(43, .int .i64 (x : Int))]) (fun _ => _) (fun x => x ≤ F.length ∧ ∀ j (h : j < F.length), j < x → ¬ (F[j].who = v.who ∧ F[j].epoch = v.slot / t.slots)) (fun x => F.length - x) 0 ⟨Nat.zero_le _, fun j h h2 => absurd h2 (Nat.not_lt_zero _)⟩ ⟨rfl, trivial⟩ (fun _ s => s) ?_
 rintro i ⟨hi, hno⟩ f; (try dsimp only at hi hno ⊢)
 refine Zx ?_
 refine cd_cond rfl (fun hb5 => ?_) (fun hb5 => ?_)
 ·have hp5 := hb5
  (try simp only [bn] at hp5)
  refine Z33 ?_
  refine Zda ?_
  refine Zd3 ?_; intro bx2
  refine Z19 ?_
  refine oq (op_field fld_155_0 rfl) ?_
  refine oq (op_ld 0 sc_3 rfl rfl (firstC_a0 _)) ?_
  refine Z5m ?_
  refine Z6j ?_
  refine Z54 ?_
  refine Z5 ?_
  refine ol_split 52 rfl (fun hb6 => ?_) (fun hb6 => ?_)
  ·have hp6 := hb6
   (try simp only [bn] at hp6)
   refine ol_q (wn_some rfl rfl rfl hb6 rfl) (op_field fld_155_1 rfl) rfl ?_
   refine ol_q (wn_some rfl rfl rfl hb6 rfl) (op_ld 0 sc_3 rfl rfl (firstC_a1 _)) rfl ?_
   refine ol_q (wn_some rfl rfl rfl hb6 rfl) (op_move (v := .int _ _) rfl) rfl ?_
   refine ol_q (wn_some rfl rfl rfl hb6 rfl) (op_eq rfl rfl) rfl ?_
   refine oq (op_pick_t (v := .bool _) rfl hb6 rfl) ?_
   refine Z1 ?_
   refine cd_cond rfl (fun hb7 => ?_) (fun hb7 => ?_)
   ·have hp7 := hb7
    (try simp only [bn] at hp7)
    have hlk : look t.first (v.who, v.slot / t.slots) = some F[i].target := first_look hw hR.f (by omega) (of_decide_eq_true ‹decide (F[i].who = v.who) = true›) (of_decide_eq_true hb7)
    refine Z15 ?_
    refine oq (op_field fld_155_2 rfl) ?_
    refine oq (op_lda (L := rootC _) 0 ag_24 rfl rfl (firstC_af2 _) (by simp [firstC_len])) ?_
    refine Zcy ?_
    refine oq (op_eqroot _ _ rB_24 rfl rfl) ?_
    refine Z1 ?_
    refine cd_cond rfl (fun hb8 => ?_) (fun hb8 => ?_)
    ·have hp8 := hb8
     (try simp only [bn] at hp8)
     have hr0 := of_decide_eq_true hb8
     refine Z1y ?_
     refine Z1z ?_
     have e : t.take v = (1, t) := by unfold TabS.take; rw [if_neg hcond, if_neg ho, hlk]; simp only [if_pos hr0]
     have hw2 := hw.take v
     rw [e] at hw2 ⊢
     exact px_ret1 rfl (v := .int _ _) (l' := RTabObj p t :: l) rfl (fun _ s => Sat.rtabMk (t := t) hw2 hR (by simp) (by simp) (by simp) (by simp) ((s.del 2).del 0)) ⟨rfl, rfl⟩
    have hp8 := hb8
    (try simp only [bn] at hp8)
    have hr0 := of_decide_eq_false hb8
    refine Zn ?_
    refine Z6i ?_
    dsimp only [List.take_succ_cons, List.take_zero, List.drop_succ_cons, List.drop_zero]
    refine Z6 ?_
    refine rg_q (wn_none rfl) (op_field fld_153_5 rfl) rfl rfl ?_
    refine rg_q (wn_none rfl) (op_ld 1 sc_133 rfl rfl rfl) rfl rfl ?_
    refine Z1x ?_
    refine rg_q (wn_none rfl) (op_ld 2 sc_3 rfl rfl (voteC_a0 _)) rfl rfl ?_
    refine rg_q (wn_none rfl) (op_index _ sB_133 rfl rfl (Int.toNat_of_nonneg (by omega)).symm (rds_row 6 rfl rfl) rfl (by omega)) rfl rfl ?_
    refine rg_tail0 ?_
    refine Z25 ?_
    refine Z9w ?_
    refine Z1 ?_
    refine Z1c ?_
    refine Z1z ?_
    have e : t.take v = (2, { t with out := t.out.set v.who.toNat true }) := by unfold TabS.take; rw [if_neg hcond, if_neg ho, hlk]; simp only [if_neg hr0]
    have hw2 := hw.take v
    rw [e] at hw2 ⊢
    exact px_ret1 rfl (v := .int _ _) (l' := RTabObj p { t with out := t.out.set v.who.toNat true } :: l) rfl (fun _ s => Sat.rtabMk (t := { t with out := t.out.set v.who.toNat true }) hw2 { hR with o := by rw [hR.o] } (by simp) (by simp) (by simp) (by simp) ((((((s.del 3).del 1).pull 4).pull 4).pull 4).pull 4)) ⟨rfl, rfl⟩
   have hp7 := hb7
   (try simp only [bn] at hp7)
   have hnm : ¬ F[i].epoch = v.slot / t.slots := of_decide_eq_false hb7
   refine Z34 ?_
   refine px_loop2 (i + 1) ⟨by omega, fun j h h2 => by rcases Nat.lt_succ_iff_lt_or_eq.1 h2 with h3 | h3; exact hno j h h3; subst h3; exact fun h4 => hnm (by first | exact h4.1 | exact h4.2)⟩ (by (try dsimp only); omega) ⟨congrArg (Value.int .i64) (by simp), trivial⟩ ?_ (fun _ s => (s.del 0))
   exact Z2
  have hp6 := hb6
  (try simp only [bn] at hp6)
  have hnm : ¬ F[i].who = v.who := of_decide_eq_false hb6
  refine Z7d ?_
  refine Z7d ?_
  refine Z7d ?_
  refine Z7d ?_
  refine oq (op_pick_f (v := .bool _) rfl hb6 rfl) ?_
  refine Z3a ?_
  refine Z34 ?_
  refine px_loop2 (i + 1) ⟨by omega, fun j h h2 => by rcases Nat.lt_succ_iff_lt_or_eq.1 h2 with h3 | h3; exact hno j h h3; subst h3; exact fun h4 => hnm (by first | exact h4.1 | exact h4.2)⟩ (by (try dsimp only); omega) ⟨congrArg (Value.int .i64) (by simp), trivial⟩ ?_ (fun _ s => (s.del 0))
  exact Z2
 have hp5 := hb5
 (try simp only [bn] at hp5)
 have hlk : look t.first (v.who, v.slot / t.slots) = none := first_none hR.f (fun j hj => hno j hj (by omega))
 refine Z1e ?_
 refine cd_pull2 ?_
 refine Z7 ?_
 refine cd_drawt (M := [_]) mx [11, 12] 13 (by kernel_rfl) rfl rfl ?_
 dsimp only [List.take_succ_cons, List.take_zero, List.drop_succ_cons, List.drop_zero]
 refine Zd ?_
 refine Z6 ?_
 refine rg_q (wn_none rfl) (op_field fld_153_2 rfl) rfl rfl ?_
 refine rg_q (wn_none rfl) (op_ld 0 sc_150 rfl rfl rfl) rfl rfl ?_
 refine Z1x ?_
 refine Z9s ?_
 refine Ze ?_
 refine Z9u ?_
 refine rg_q (wn_none rfl) (op_lda (L := rootC _) 1 ag_24 rfl rfl (voteC_af2 _) (by simp [voteC_len])) rfl rfl ?_
 refine rg_q (wn_none rfl) (op_build (L := firstC _) (vs := [(0, .int _ _), (1, .int _ _), (2, .agg (rootC _).toArray)]) bB_155 rfl ⟨⟨rfl, by rw [firstC_len]; rfl⟩, ⟨rfl, by rw [firstC_len]; rfl⟩, ⟨by simp [Value.cells, rootC_len], by rw [firstC_len]; rfl⟩, trivial⟩ ((firstC_b0 _ _ _).trans ((firstC_b1 _ _ _).trans ((firstC_b2 _ _ _).trans rfl)))) rfl rfl ?_
 refine rg_i (wn_none rfl) (os_bslice (E := encFirst) [_] (ys := [_]) sB_150 zv_155 rfl rfl rfl rfl (by decide)) rfl rfl ?_; rintro _ _ ⟨ao1, rfl, rfl⟩; refine ⟨[_, _], rfl, ?_⟩
 refine rg_i (wn_none rfl) (os_pull1 (os_append (E := encFirst) rfl sB_150 zv_155 rfl rfl rfl (fun w s => (rds_row 1 rfl rfl) [] w s) rfl (by simp; omega) (by unfold maxLen; simp; omega))) rfl rfl ?_; rintro _ _ ⟨ao2, ac2, rfl, rfl⟩; refine ⟨[_, _], rfl, ?_⟩
 refine rg_tail2 ?_
 refine Zr ?_
 refine oq (op_field fld_153_2 rfl) ?_
 refine Zs ?_
 refine oN (os_store (v := .slice _ _ _) sc_150 rfl rfl rfl rfl (Free.zero _) rfl) ?_; rintro _ _ ⟨rfl, rfl⟩
 refine Z39 ?_
 refine Z1u ?_
 refine Z6 ?_
 refine rg_q (wn_none rfl) (op_field fld_153_4 rfl) rfl rfl ?_
 refine rg_q (wn_none rfl) (op_ld 0 sc_133 rfl rfl rfl) rfl rfl ?_
 refine Z1x ?_
 refine Z57 ?_
 refine Z8u ?_
 refine rg_q (wn_none rfl) (op_ldw sc_4 (rds_row 5 rfl rfl) rfl (by omega) rfl) rfl rfl ?_
 refine Z4k ?_
 refine rg_split 94 rfl (fun hb9 => ?_) (fun hb9 => ?_)
 ·have hp9 := hb9
  (try simp only [bn] at hp9)
  obtain ⟨u, hu0⟩ : ∃ u, t.latest[v.who.toNat]? = some (some u) := by
   have h1 := hb9
   simp only [hR.h, List.getElem_map] at h1
   obtain ⟨u, hu⟩ := Option.isSome_iff_exists.1 h1
   exact ⟨u, (List.getElem?_eq_some_iff).2 ⟨by omega, hu⟩⟩
  have hlv : t.latest.getD v.who.toNat none = some u := by rw [List.getD_eq_getElem?_getD, hu0]; rfl
  have hLu : Lv[v.who.toNat] = u := by simp only [hR.l, List.getElem_map]; rw [(List.getElem_eq_iff (by omega)).2 hu0]; rfl
  have husl := hw.sl u (List.mem_of_getElem? hu0)
  rw [← hLu] at husl
  refine rg_q (wn_some rfl rfl rfl hb9 rfl) (op_move (v := .pointer _) rfl) rfl rfl ?_
  refine rg_q (wn_some rfl rfl rfl hb9 rfl) (op_nilck rfl) rfl rfl ?_
  refine rg_q (wn_some rfl rfl rfl hb9 rfl) (op_field fld_153_3 rfl) rfl rfl ?_
  refine rg_q (wn_some rfl rfl rfl hb9 rfl) (op_ld 0 sc_151 rfl rfl rfl) rfl rfl ?_
  refine rg_q (wn_some rfl rfl rfl hb9 rfl) (op_field fld_84_0 rfl) rfl rfl ?_
  refine rg_q (wn_some rfl rfl rfl hb9 rfl) (op_ld 3 sc_3 rfl rfl (voteC_a0 _)) rfl rfl ?_
  refine rg_q (wn_some rfl rfl rfl hb9 rfl) (op_index _ sB_151 rfl rfl (Int.toNat_of_nonneg (by omega)).symm (rds_row 4 rfl rfl) rfl (by omega)) rfl rfl ?_
  refine rg_q (wn_some rfl rfl rfl hb9 rfl) (op_fielde fld_84_1 rfl (rds_row 4 rfl rfl) (by omega)) rfl rfl ?_
  refine rg_q (wn_some rfl rfl rfl hb9 rfl) (op_ldf 1 sc_3 (rds_row 4 rfl rfl) rfl (by omega) rfl (voteC_l1 _)) rfl rfl ?_
  refine rg_q (wn_some rfl rfl rfl hb9 rfl) (op_move (v := .pointer _) rfl) rfl rfl ?_
  refine rg_q (wn_some rfl rfl rfl hb9 rfl) (op_nilck rfl) rfl rfl ?_
  refine rg_q (wn_some rfl rfl rfl hb9 rfl) (op_field fld_153_1 rfl) rfl rfl ?_
  refine rg_q (wn_some rfl rfl rfl hb9 rfl) (op_ld 0 sc_3 rfl rfl rfl) rfl rfl ?_
  refine rg_q (wn_some rfl rfl rfl hb9 rfl) (op_quo rfl rfl (by omega) (by omega) (by omega)) rfl rfl ?_
  refine rg_q (wn_some rfl rfl rfl hb9 rfl) (op_move (v := .int _ _) rfl) rfl rfl ?_
  refine rg_q (wn_some rfl rfl rfl hb9 rfl) (op_gt rfl rfl) rfl rfl ?_
  refine rg_q (wn_none rfl) (op_pick_t (v := .bool _) rfl hb9 rfl) rfl rfl ?_
  refine Z1a ?_
  refine cd_cond rfl (fun hb10 => ?_) (fun hb10 => ?_)
  ·have hp10 := hb10
   (try simp only [bn] at hp10)
   have hlate := of_decide_eq_true hb10
   rw [hLu] at hlate
   refine Z1y ?_
   have e : t.take v = (3, { t with first := ins t.first (v.who, v.slot / t.slots) v.target }) := by unfold TabS.take; rw [if_neg hcond, if_neg ho, hlk]; simp only [hlv, if_pos hlate]
   have hw2 := hw.take v
   rw [e] at hw2 ⊢
   exact px_ret1 rfl (v := .int _ _) (l' := RTabObj p { t with first := ins t.first (v.who, v.slot / t.slots) v.target } :: l) rfl (fun _ s => Sat.rtabMk (t := { t with first := ins t.first (v.who, v.slot / t.slots) v.target }) hw2 { hR with f := by rw [hR.f, ins_none hlk, List.map_append]; rfl } (by simp) (by simp) (by simp) (by simp) ((s.del 3).del 2)) ⟨rfl, rfl⟩
  have hp10 := hb10
  (try simp only [bn] at hp10)
  have hlate := of_decide_eq_false hb10
  rw [hLu] at hlate
  refine Zn ?_
  refine cd_drawt (M := []) mx [] 8 (by kernel_rfl) rfl rfl ?_
  dsimp only [List.take_succ_cons, List.take_zero, List.drop_succ_cons, List.drop_zero]
  refine Z6 ?_
  refine rg_q (wn_none rfl) (op_field fld_153_3 rfl) rfl rfl ?_
  refine rg_q (wn_none rfl) (op_ld 0 sc_151 rfl rfl rfl) rfl rfl ?_
  refine Z1x ?_
  refine Z57 ?_
  refine Z61 ?_
  refine rg_q (wn_none rfl) (op_index _ sB_151 rfl rfl (Int.toNat_of_nonneg (by omega)).symm (rds_row 4 rfl rfl) rfl (by omega)) rfl rfl ?_
  refine rg_tail0 ?_
  refine ol_pull4 ?_
  refine oN (os_staw ag_84 rfl rfl rfl rfl (by omega) rfl) ?_; rintro _ _ ⟨rfl, rfl⟩
  refine Z39 ?_
  refine Z6i ?_
  dsimp only [List.take_succ_cons, List.take_zero, List.drop_succ_cons, List.drop_zero]
  refine Z6 ?_
  refine rg_q (wn_none rfl) (op_field fld_153_4 rfl) rfl rfl ?_
  refine rg_q (wn_none rfl) (op_ld 1 sc_133 rfl rfl rfl) rfl rfl ?_
  refine Z1x ?_
  refine rg_q (wn_none rfl) (op_ld 4 sc_3 rfl rfl (voteC_a0 _)) rfl rfl ?_
  refine Z8u ?_
  refine rg_tail0 ?_
  refine ol_pull5 ?_
  refine Z9w ?_
  refine Z1 ?_
  refine Z1c ?_
  have e : t.take v = (0, { t with first := ins t.first (v.who, v.slot / t.slots) v.target, latest := t.latest.set v.who.toNat (some v) }) := by unfold TabS.take; rw [if_neg hcond, if_neg ho, hlk]; simp only [hlv, if_neg hlate]
  have hw2 := hw.take v
  rw [e] at hw2 ⊢
  exact Zbw
 have hp9 := hb9
 (try simp only [bn] at hp9)
 have hlv : t.latest.getD v.who.toNat none = none := by
  have h1 := hb9
  simp only [hR.h, List.getElem_map] at h1
  rw [List.getD_eq_getElem?_getD, List.getElem?_eq_getElem (by omega)]
  simpa using h1
 refine Z30 ?_
 refine Z30 ?_
 refine Z30 ?_
 refine Z30 ?_
 refine Z30 ?_
 refine Z30 ?_
 refine Z30 ?_
 refine Z30 ?_
 refine Z30 ?_
 refine Z30 ?_
 refine Z30 ?_
 refine Z30 ?_
 refine Z30 ?_
 refine Z30 ?_
 refine Z30 ?_
 refine Z30 ?_
 refine rg_q (wn_none rfl) (op_pick_f (v := .bool _) rfl hb9 rfl) rfl rfl ?_
 refine Z1a ?_
 refine cd_cond_f rfl rfl ?_
 refine Zn ?_
 refine cd_drawt (M := []) mx [] 8 (by kernel_rfl) rfl rfl ?_
 dsimp only [List.take_succ_cons, List.take_zero, List.drop_succ_cons, List.drop_zero]
 refine Z6 ?_
 refine rg_q (wn_none rfl) (op_field fld_153_3 rfl) rfl rfl ?_
 refine rg_q (wn_none rfl) (op_ld 0 sc_151 rfl rfl rfl) rfl rfl ?_
 refine Z1x ?_
 refine Z57 ?_
 refine Z61 ?_
 refine rg_q (wn_none rfl) (op_index _ sB_151 rfl rfl (Int.toNat_of_nonneg (by omega)).symm (rds_row 4 rfl rfl) rfl (by omega)) rfl rfl ?_
 refine rg_tail0 ?_
 refine ol_pull4 ?_
 refine oN (os_staw ag_84 rfl rfl rfl rfl (by omega) rfl) ?_; rintro _ _ ⟨rfl, rfl⟩
 refine Z39 ?_
 refine Z6i ?_
 dsimp only [List.take_succ_cons, List.take_zero, List.drop_succ_cons, List.drop_zero]
 refine Z6 ?_
 refine rg_q (wn_none rfl) (op_field fld_153_4 rfl) rfl rfl ?_
 refine rg_q (wn_none rfl) (op_ld 1 sc_133 rfl rfl rfl) rfl rfl ?_
 refine Z1x ?_
 refine rg_q (wn_none rfl) (op_ld 4 sc_3 rfl rfl (voteC_a0 _)) rfl rfl ?_
 refine Z8u ?_
 refine rg_tail0 ?_
 refine ol_pull5 ?_
 refine Z9w ?_
 refine Z1 ?_
 refine Z1c ?_
 have e : t.take v = (0, { t with first := ins t.first (v.who, v.slot / t.slots) v.target, latest := t.latest.set v.who.toNat (some v) }) := by unfold TabS.take; rw [if_neg hcond, if_neg ho, hlk]; simp only [hlv]
 have hw2 := hw.take v
 rw [e] at hw2 ⊢
 exact Zbw

def fkeep (slot k : Int) (f : First) : Bool := decide (slot < 0) || decide (slot / k ≤ f.epoch)
def fsel (F : List First) (slot k : Int) (i : Nat) : List First := (F.take i).filter (fkeep slot k)
theorem fsel_all (F : List First) (slot k : Int) : fsel F slot k F.length = F.filter (fkeep slot k) := by unfold fsel; rw [List.take_length]
theorem fsel_succ (F : List First) (slot k : Int) (i : Nat) (hi : i < F.length) : fsel F slot k (i + 1) = if fkeep slot k F[i] = true then fsel F slot k i ++ [F[i]] else fsel F slot k i := by
 unfold fsel
 rw [List.take_add_one, List.getElem?_eq_getElem hi, Option.toList_some, List.filter_append]
 by_cases h : fkeep slot k F[i] = true
 ·rw [if_pos h, List.filter_cons_of_pos h]; rfl
 ·rw [if_neg h, List.filter_cons_of_neg h]; simp
theorem fsel_len (F : List First) (slot k : Int) (i : Nat) : (fsel F slot k i).length ≤ F.length := Nat.le_trans (List.length_filter_le _ _) (by simp; omega)
theorem fkeep_neg {slot k : Int} (h : slot < 0) (L : List ((Int × Int) × Root)) : (L.map toFirst).filter (fkeep slot k) = L.map toFirst := List.filter_eq_self.2 fun f _ => by simp [fkeep, h]
theorem fkeep_pos {slot k : Int} (h : ¬ slot < 0) (L : List ((Int × Int) × Root)) : (L.map toFirst).filter (fkeep slot k) = (L.filter fun p => decide (slot / k ≤ p.1.2)).map toFirst := by
 rw [List.filter_map]
 congr 1
 apply List.filter_congr
 intro p _
 simp [fkeep, h, toFirst] <;> rfl

set_option maxRecDepth 100000 in
set_option maxHeartbeats 1000000 in
theorem RForget_calls {w0 w : World} {l : List HProp} (p : Nat) (t : TabS) (slot : Int) (hs : Sat w0 w ((RTabObj p t) :: l)) (hs0 : slot ≤ 9223372036854775807) :
  Calls Try.prog 71 #[.pointer (some ⟨p, 0, none⟩), .int .i64 slot] w (Ret w0 fun r l' => r = .tuple #[] ∧ l' = RTabObj p (t.forget slot) :: l) := by
 obtain ⟨a1, c1, a2, c2, a3, c3, a4, c4, N, F, Lv, Hs, Ou, hw, hR, hs⟩ := hs.rtabOpen
 have hs1 := hw.s1; have hs2 := hw.s2; have hn1 := hw.n1; have hlo := hw.lo; have hN := hR.n; have hFl : F.length ≤ 64 * 1073741825 := by rw [hR.f, List.length_map]; exact hw.first_len
 have hLl : Lv.length = N := by rw [hR.l, hR.n, List.length_map]
 have hHl : Hs.length = N := by rw [hR.h, hR.n, List.length_map]
 have hOl : Ou.length = N := by rw [hR.o, hR.n]; exact hlo
 refine calls_enter Try.func71 rfl rfl rfl hs ?_
 refine Z0 ?_
 refine Zw ?_
 refine Z1 ?_
 refine Z1q ?_
 refine Zr ?_
 refine oq (op_field fld_153_2 rfl) ?_
 refine oq (op_ld 0 sc_150 rfl rfl rfl) ?_
 refine oq (op_len_slice Try.underlying150 rfl) ?_
 refine Z1l ?_
 refine cd_loop2 (α := Nat × Option Addr × Nat) [(4, 4), (6, 6), (12, 33)] (fun x => [(4, .slice x.2.1 (fsel F slot t.slots x.1).length x.2.2), (12, .int .i64 (x.1 : Int))]) (fun x => Row 155 encFirst (.slice x.2.1 (fsel F slot t.slots x.1).length x.2.2) (fsel F slot t.slots x.1) :: Blk p (.cells #[.int .i64 (N : Int), .int .i64 t.slots, .slice a1 F.length c1, .slice a2 Lv.length c2, .slice a3 Hs.length c3, .slice a4 Ou.length c4] 153 (0, 0)) :: Row 155 encFirst (.slice a1 F.length c1) F :: Row 84 encVote (.slice a2 Lv.length c2) Lv :: Row 4 encBool (.slice a3 Hs.length c3) Hs :: Row 4 encBool (.slice a4 Ou.length c4) Ou :: l) (fun x => x.1 ≤ F.length) (fun x => F.length - x.1) (0, none, 0) (Nat.zero_le _) ⟨rfl, rfl, trivial⟩ (fun _ s => s.rowNil) ?_
 rintro ⟨i, vo, vc⟩ hi f; (try dsimp only at hi ⊢); have hfl := fsel_len F slot t.slots i
 refine Zx ?_
 refine cd_cond rfl (fun hb1 => ?_) (fun hb1 => ?_)
 ·have hp1 := hb1
  (try simp only [bn] at hp1)
  refine Z33 ?_
  refine Zda ?_
  refine Zd3 ?_; intro bx1
  refine Z39 ?_
  refine Z6u ?_
  refine Ze ?_
  refine Z53 ?_
  refine Z4k ?_
  refine rg_split 18 rfl (fun hb2 => ?_) (fun hb2 => ?_)
  ·have hp2 := hb2
   (try simp only [bn] at hp2)
   have hneg := of_decide_eq_true hb2
   refine Z2j ?_
   refine Z2j ?_
   refine Z2j ?_
   refine Z2j ?_
   refine Z8k ?_
   refine rg_q (wn_none rfl) (op_pick_t (v := .bool _) rfl hb2 rfl) rfl rfl ?_
   refine Z1a ?_
   refine Z5e ?_
   refine Z1b ?_
   refine Zm ?_
   refine oq (op_lda (L := firstC _) 0 ag_155 rfl rfl (firstC_ta _) (by simp [firstC_len])) ?_
   refine oi (os_bslice (E := encFirst) [_] (ys := [_]) sB_150 zv_155 rfl rfl rfl rfl (by decide)) ?_; rintro _ _ ⟨ao1, rfl, rfl⟩
   refine Zs ?_
   refine oi (os_append (E := encFirst) rfl sB_150 zv_155 rfl rfl rfl (fun w s => (rds_row 1 rfl rfl) [] w s) rfl (by simp; omega) (by unfold maxLen; simp; omega)) ?_; rintro _ _ ⟨ao2, ac2, rfl, rfl⟩
   refine Zw ?_
   refine Z35 ?_
   have e1 : fsel F slot t.slots (i + 1) = fsel F slot t.slots i ++ [F[i]] := by rw [fsel_succ F slot t.slots i (by omega), if_pos (by simp only [fkeep, Bool.or_eq_true, decide_eq_true_eq]; omega)]
   refine px_loop2 (i + 1, ao2, ac2) (by dsimp only; omega) (by (try dsimp only); omega) ⟨congrArg (fun q => Value.slice ao2 (List.length q) ac2) e1.symm, congrArg (Value.int .i64) (by simp), trivial⟩ ?_ (fun _ s => (by rw [e1]; exact ((s.del 2).del 1)))
   exact Z2
  have hp2 := hb2
  (try simp only [bn] at hp2)
  have hneg := of_decide_eq_false hb2
  refine rg_q (wn_some rfl rfl rfl hb2 rfl) (op_field fld_155_1 rfl) rfl rfl ?_
  refine rg_q (wn_some rfl rfl rfl hb2 rfl) (op_ld 0 sc_3 rfl rfl (firstC_a1 _)) rfl rfl ?_
  refine Za0 ?_
  refine rg_q (wn_some rfl rfl rfl hb2 rfl) (op_move (v := .pointer _) rfl) rfl rfl ?_
  refine rg_q (wn_some rfl rfl rfl hb2 rfl) (op_nilck rfl) rfl rfl ?_
  refine rg_q (wn_some rfl rfl rfl hb2 rfl) (op_field fld_153_1 rfl) rfl rfl ?_
  refine rg_q (wn_some rfl rfl rfl hb2 rfl) (op_ld 2 sc_3 rfl rfl rfl) rfl rfl ?_
  refine rg_q (wn_some rfl rfl rfl hb2 rfl) (op_quo rfl rfl (by omega) (by omega) (by omega)) rfl rfl ?_
  refine rg_q (wn_some rfl rfl rfl hb2 rfl) (op_ge rfl rfl) rfl rfl ?_
  refine rg_q (wn_none rfl) (op_pick_f (v := .bool _) rfl hb2 rfl) rfl rfl ?_
  refine Z1a ?_
  refine cd_cond rfl (fun hb3 => ?_) (fun hb3 => ?_)
  ·have hp3 := hb3
   (try simp only [bn] at hp3)
   have hke := of_decide_eq_true hb3
   refine Z1b ?_
   refine Zm ?_
   refine oq (op_lda (L := firstC _) 0 ag_155 rfl rfl (firstC_ta _) (by simp [firstC_len])) ?_
   refine oi (os_bslice (E := encFirst) [_] (ys := [_]) sB_150 zv_155 rfl rfl rfl rfl (by decide)) ?_; rintro _ _ ⟨ao3, rfl, rfl⟩
   refine Zs ?_
   refine oi (os_append (E := encFirst) rfl sB_150 zv_155 rfl rfl rfl (fun w s => (rds_row 1 rfl rfl) [] w s) rfl (by simp; omega) (by unfold maxLen; simp; omega)) ?_; rintro _ _ ⟨ao4, ac4, rfl, rfl⟩
   refine Zw ?_
   refine Z35 ?_
   have e1 : fsel F slot t.slots (i + 1) = fsel F slot t.slots i ++ [F[i]] := by rw [fsel_succ F slot t.slots i (by omega), if_pos (by simp only [fkeep, Bool.or_eq_true, decide_eq_true_eq]; omega)]
   refine px_loop2 (i + 1, ao4, ac4) (by dsimp only; omega) (by (try dsimp only); omega) ⟨congrArg (fun q => Value.slice ao4 (List.length q) ac4) e1.symm, congrArg (Value.int .i64) (by simp), trivial⟩ ?_ (fun _ s => (by rw [e1]; exact ((s.del 2).del 1)))
   exact Z2
  have hp3 := hb3
  (try simp only [bn] at hp3)
  have hke := of_decide_eq_false hb3
  refine Z34 ?_
  have e1 : fsel F slot t.slots (i + 1) = fsel F slot t.slots i := by rw [fsel_succ F slot t.slots i (by omega), if_neg (by simp only [fkeep, Bool.or_eq_true, decide_eq_true_eq]; omega)]
  refine px_loop2 (i + 1, vo, vc) (by dsimp only; omega) (by (try dsimp only); omega) ⟨congrArg (fun q => Value.slice vo (List.length q) vc) e1.symm, congrArg (Value.int .i64) (by simp), trivial⟩ ?_ (fun _ s => (by rw [e1]; exact (s.del 0)))
  exact Z2
 have hp1 := hb1
 (try simp only [bn] at hp1)
 refine Z1e ?_
 refine Z6a ?_
 refine Zm ?_
 refine Zr ?_
 refine oq (op_field fld_153_2 rfl) ?_
 refine Z9 ?_
 refine oN (os_store (v := .slice _ _ _) sc_150 rfl rfl rfl rfl (Free.zero _) rfl) ?_; rintro _ _ ⟨rfl, rfl⟩
 refine ol_nil ?_
 have ei : i = F.length := by omega
 subst ei
 rw [fsel_all, hR.f]
 by_cases hneg : slot < 0
 ·have e : t.forget slot = t := by unfold TabS.forget; rw [if_pos hneg]
  rw [e, fkeep_neg hneg]
  exact px_end0 (l' := RTabObj p t :: l) rfl (fun _ s => Sat.rtabMk (t := t) hw { hR with f := rfl } (by simp) (by simp) (by simp) (by simp) (s.del 2)) ⟨rfl, rfl⟩
 have e : t.forget slot = { t with first := t.first.filter fun p => decide (slot / t.slots ≤ p.1.2) } := by unfold TabS.forget; rw [if_neg hneg]
 have hwf := hw.forget slot
 rw [e] at hwf ⊢
 rw [fkeep_pos hneg]
 exact px_end0 (l' := RTabObj p _ :: l) rfl (fun _ s => Sat.rtabMk (t := { t with first := t.first.filter fun p => decide (slot / t.slots ≤ p.1.2) }) hwf { hR with f := rfl } (by simp) (by simp) (by simp) (by simp) (s.del 2)) ⟨rfl, rfl⟩
end Go.SL

set_option linter.unusedVariables false
set_option linter.unusedSimpArgs false
namespace Go.SL
def valOK (v : Val) : Bool := decide (0 ≤ v.stake ∧ 1 ≤ v.key.length ∧ v.key.length ≤ 32)
/-- all stakes, from a sum on -/
def totF (s : Int) : List Val → Option Int
  | [] => some s
  | v :: r => if valOK v = true ∧ s + v.stake < 4611686018427387904 then totF (s + v.stake) r else none
theorem totF_drop {s : Int} {xs : List Val} {i : Nat} (h : i < xs.length) : totF s (xs.drop i) = if valOK xs[i] = true ∧ s + xs[i].stake < 4611686018427387904 then totF (s + xs[i].stake) (xs.drop (i + 1)) else none := by
  rw [List.drop_eq_getElem_cons h, totF]
theorem totF_end {s : Int} {xs : List Val} {i : Nat} (h : ¬ i < xs.length) : totF s (xs.drop i) = some s := by
  rw [List.drop_eq_nil_of_le (by omega), totF]
theorem totF_rg {s n : Int} {xs : List Val} (h0 : 0 ≤ s) (h1 : s < 4611686018427387904) (h : totF s xs = some n) : 0 ≤ n ∧ n < 4611686018427387904 := by
  induction xs generalizing s with
  | nil => rw [totF] at h; cases h; exact ⟨h0, h1⟩
  | cons v r ih =>
    rw [totF] at h
    split at h
    · rename_i hc
      have := of_decide_eq_true hc.1
      exact ih (by omega) (by omega) h
    · cases h
/-- the sum alone -/
def sumV : List Val → Int
  | [] => 0
  | v :: r => v.stake + sumV r
theorem totF_iff {s : Int} {xs : List Val} (h0 : 0 ≤ s) (h1 : s < 4611686018427387904) : totF s xs = if (∀ v ∈ xs, valOK v = true) ∧ s + sumV xs < 4611686018427387904 then some (s + sumV xs) else none := by
  induction xs generalizing s with
  | nil => rw [totF, if_pos ⟨fun v h => (by cases h), by simp [sumV]; exact h1⟩]; simp [sumV]
  | cons v r ih =>
    rw [totF]
    by_cases hv : valOK v = true
    · have hb := of_decide_eq_true hv
      by_cases hs : s + v.stake < 4611686018427387904
      · rw [if_pos ⟨hv, hs⟩, ih (by omega) hs]
        have e : s + v.stake + sumV r = s + sumV (v :: r) := by rw [sumV]; omega
        rw [e]
        by_cases hr : (∀ u ∈ r, valOK u = true) ∧ s + sumV (v :: r) < 4611686018427387904
        · rw [if_pos hr, if_pos ⟨fun u hu => by rcases List.mem_cons.1 hu with rfl | h; exact hv; exact hr.1 u h, hr.2⟩]
        · rw [if_neg hr, if_neg fun h => hr ⟨fun u hu => h.1 u (List.mem_cons_of_mem _ hu), h.2⟩]
      · rw [if_neg fun h => hs h.2, if_neg fun h => ?_]
        have h2 := h.2
        rw [sumV] at h2
        have : ∀ l : List Val, (∀ u ∈ l, valOK u = true) → 0 ≤ sumV l := by
          intro l
          induction l with
          | nil => intro _; simp [sumV]
          | cons a b ih2 =>
            intro hl
            have h3 := of_decide_eq_true (hl a List.mem_cons_self)
            have h4 := ih2 fun u hu => hl u (List.mem_cons_of_mem _ hu)
            rw [sumV]; omega
        have h5 := this r fun u hu => h.1 u (List.mem_cons_of_mem _ hu)
        omega
    · rw [if_neg fun h => hv h.1, if_neg fun h => hv (h.1 v List.mem_cons_self)]
theorem sumV_append (x y : List Val) : sumV (x ++ y) = sumV x + sumV y := by
  induction x with
  | nil => simp [sumV]
  | cons v r ih => rw [List.cons_append, sumV, sumV, ih]; omega
/-- a configuration's numbers, each with what it is at most -/
def numsC (q : Cfg) (n : Nat) : List (Int × Int) :=
  [(q.epoch, 32), (q.committee, if (n : Int) < 16 then n else 16), (q.nodes, 256), (q.orphans, 64), (q.early, 64), (q.quota, 64), (q.peers, 16), (q.bytes, 256), (q.window, 64), (q.ban, 1048576), (q.decay, 1048576), ((n : Int), 64)]
def inR (p : Int × Int) : Bool := decide (1 ≤ p.1 ∧ p.1 ≤ p.2)
def goodC (q : Cfg) (xs : List Val) : Bool := (totF 0 xs).isSome && (numsC q xs.length).all inR
end Go.SL
namespace Go.SL
def greatC (xs : List Val) : Bool := decide (100 < xs.length) || xs.any fun v => decide (200 < v.key.length)
def idxB (xs : List Bool) (b : Bool) : Int := match xs.findIdx? (fun x => decide (b = x)) with | some i => (i : Int) | none => -1
theorem idxB_some {xs : List Bool} {b : Bool} {i : Nat} (hi : i < xs.length) (h : b = xs[i]) (hno : ∀ j (hj : j < xs.length), j < i → b ≠ xs[j]) : idxB xs b = i := by
  unfold idxB
  rw [List.findIdx?_eq_some_iff_getElem.2 ⟨hi, by simpa using h, fun j hj => by simpa using hno j (by omega) hj⟩]
theorem idxB_none {xs : List Bool} {b : Bool} (hno : ∀ j (hj : j < xs.length), b ≠ xs[j]) : idxB xs b = -1 := by
  unfold idxB
  rw [List.findIdx?_eq_none_iff.2]
  intro x hx
  obtain ⟨j, hj, rfl⟩ := List.mem_iff_getElem.1 hx
  simpa using hno j hj
theorem idxB_contains (xs : List Bool) (b : Bool) : decide (0 ≤ idxB xs b) = xs.contains b := by
  unfold idxB
  cases e : xs.findIdx? (fun x => decide (b = x)) with
  | none =>
    rw [List.findIdx?_eq_none_iff] at e
    symm
    dsimp only
    rw [show decide ((0 : Int) ≤ -1) = false by decide]
    rw [Bool.eq_false_iff]
    intro h
    rw [List.contains_iff_mem] at h
    have := e b h
    simp at this
  | some i =>
    obtain ⟨hi, h1, _⟩ := List.findIdx?_eq_some_iff_getElem.1 e
    dsimp only
    rw [decide_eq_true (by omega)]
    symm
    rw [List.contains_iff_mem]
    have : b = xs[i] := of_decide_eq_true h1
    rw [this]; exact List.getElem_mem hi
end Go.SL

set_option linter.unusedVariables false
namespace Go.SL
def putB (n : Nat) : Nat → List UInt8
  | 0 => []
  | k + 1 => putB n k ++ [UInt8.ofNat (n / 256 ^ k)]
def clamp8 (w : Int) : Nat := (min (max w 0) 8).toNat
def leNat : List UInt8 → Nat
  | [] => 0
  | b :: r => b.toNat + 256 * leNat r
structure RdS where
  rest : List UInt8
  short : Bool
def rdBytes (r : RdS) (n : Int) : List UInt8 × RdS :=
  if r.short = true ∨ n < 0 ∨ (r.rest.length : Int) < n then ([], ⟨[], true⟩) else (r.rest.take n.toNat, ⟨r.rest.drop n.toNat, false⟩)
def rdUint (r : RdS) (w : Int) : Nat × RdS :=
  let p := rdBytes r (if 8 < w then -1 else w)
  (leNat p.1, p.2)
theorem putB_length (n k : Nat) : (putB n k).length = k := by
  induction k with
  | zero => rfl
  | succ k ih => simp [putB, ih]
theorem clamp8_le (w : Int) : clamp8 w ≤ 8 := by unfold clamp8; omega
theorem clamp8_pred {wd : Int} (h : ¬ wd ≤ 0) : clamp8 wd = clamp8 ((if 8 < wd then 8 else wd) - 1) + 1 := by
  unfold clamp8; split <;> omega
theorem clamp8_if (w : Int) : (if 8 < (if w < 0 then 0 else w) then 8 else (if w < 0 then 0 else w)) = (clamp8 w : Int) := by
  unfold clamp8
  by_cases h : w < 0
  · simp only [h, if_true]; omega
  · simp only [h, if_false]; split <;> omega
theorem putB_cons (A k : Nat) : putB A (k + 1) = UInt8.ofNat (A % 256) :: putB (A / 256) k := by
  induction k with
  | zero => simp only [putB, Nat.pow_zero, Nat.div_one, List.nil_append, List.cons.injEq, and_true]; apply UInt8.toNat_inj.1; simp [UInt8.toNat_ofNat']
  | succ k ih => rw [putB, ih, putB]; simp [Nat.pow_succ, Nat.div_div_eq_div_mul, Nat.mul_comm]
def puts (k : Nat) (xs : List Nat) : List UInt8 := xs.flatMap fun x => putB x k
end Go.SL

set_option linter.unusedVariables false
set_option linter.unusedSimpArgs false
namespace Go.SL
def numsL (q : Cfg) (n : Nat) : List Int :=
  [q.epoch, 32, q.committee, (if (n : Int) < 16 then n else 16), q.nodes, 256, q.orphans, 64, q.early, 64, q.quota, 64, q.peers, 16, q.bytes, 256, q.window, 64, q.ban, 1048576, q.decay, 1048576, (n : Int), 64]
theorem nums_at (q : Cfg) (n j : Nat) (h : j < 12) (h1 : 2 * j < (numsL q n).length) (h2 : 2 * j + 1 < (numsL q n).length) (h3 : j < (numsC q n).length) : (numsL q n)[2 * j] = ((numsC q n)[j]).1 ∧ (numsL q n)[2 * j + 1] = ((numsC q n)[j]).2 := by
  match j, h with
  | 0, _ => exact ⟨rfl, rfl⟩
  | 1, _ => exact ⟨rfl, rfl⟩
  | 2, _ => exact ⟨rfl, rfl⟩
  | 3, _ => exact ⟨rfl, rfl⟩
  | 4, _ => exact ⟨rfl, rfl⟩
  | 5, _ => exact ⟨rfl, rfl⟩
  | 6, _ => exact ⟨rfl, rfl⟩
  | 7, _ => exact ⟨rfl, rfl⟩
  | 8, _ => exact ⟨rfl, rfl⟩
  | 9, _ => exact ⟨rfl, rfl⟩
  | 10, _ => exact ⟨rfl, rfl⟩
  | 11, _ => exact ⟨rfl, rfl⟩
theorem contains_all (l : List Bool) : (!l.contains false) = l.all id := by
  induction l with
  | nil => rfl
  | cons b r ih =>
    rw [List.all_cons, ← ih]
    cases b <;> simp
theorem goodC_no {q : Cfg} {xs : List Val} {j : Nat} (hj : j < (numsC q xs.length).length) (h : inR (numsC q xs.length)[j] = false) : goodC q xs = false := by
  unfold goodC
  rw [Bool.and_eq_false_iff]
  right
  rw [List.all_eq_false]
  exact ⟨_, List.getElem_mem hj, by rw [h]; simp⟩
theorem goodC_yes {q : Cfg} {xs : List Val} (h : ∀ j (hj : j < (numsC q xs.length).length), inR (numsC q xs.length)[j] = true) : goodC q xs = (totF 0 xs).isSome := by
  unfold goodC
  have : (numsC q xs.length).all inR = true := by
    rw [List.all_eq_true]
    intro x hx
    obtain ⟨j, hj, rfl⟩ := List.mem_iff_getElem.1 hx
    exact h j hj
  rw [this, Bool.and_true]
/-- what a configuration that can be is like -/
theorem goodC_rg {q : Cfg} {xs : List Val} (h : goodC q xs = true) : (1 ≤ q.epoch ∧ q.epoch ≤ 32) ∧ (1 ≤ xs.length ∧ xs.length ≤ 64) ∧ (∀ v ∈ xs, valOK v = true) := by
  unfold goodC numsC inR at h
  simp at h
  refine ⟨by omega, by omega, ?_⟩
  have h1 := h.1
  rw [totF_iff (by omega) (by omega)] at h1
  by_cases hc : (∀ v ∈ xs, valOK v = true) ∧ 0 + sumV xs < 4611686018427387904
  · exact hc.1
  · rw [if_neg hc] at h1; simp at h1
/-- numbers, as bytes -/
def bytesA (l : List Int) : List UInt8 := l.flatMap fun x => putB (u64N x) 4
def bytesV (l : List Val) : List UInt8 := l.flatMap fun v => putB (u64N v.stake) 8 ++ putB v.key.length 1 ++ v.key
def nums12 (q : Cfg) (n : Nat) : List Int := [q.epoch, q.committee, q.nodes, q.orphans, q.early, q.quota, q.peers, q.bytes, q.window, q.ban, q.decay, (n : Int)]
def bytesC (q : Cfg) (xs : List Val) : List UInt8 := bytesA (nums12 q xs.length) ++ bytesV xs
theorem bytesA_length (l : List Int) : (bytesA l).length = 4 * l.length := by
  induction l with
  | nil => rfl
  | cons x r ih => unfold bytesA at ih ⊢; rw [List.flatMap_cons, List.length_append, ih, putB_length, List.length_cons]; omega
theorem bytesV_length {l : List Val} (h : ∀ v ∈ l, v.key.length ≤ 32) : (bytesV l).length ≤ 41 * l.length := by
  induction l with
  | nil => exact Nat.le_refl _
  | cons x r ih =>
    have h1 := ih fun v hv => h v (List.mem_cons_of_mem _ hv)
    have h2 := h x List.mem_cons_self
    unfold bytesV at h1 ⊢
    simp only [List.flatMap_cons, List.length_append, putB_length, List.length_cons] at h1 ⊢
    omega
theorem bytesA_succ (l : List Int) (i : Nat) (h : i < l.length) : bytesA (l.take (i + 1)) = bytesA (l.take i) ++ putB (u64N l[i]) 4 := by
  unfold bytesA
  rw [List.take_add_one, List.getElem?_eq_getElem h, Option.toList_some, List.flatMap_append]
  simp
theorem bytesV_succ (l : List Val) (i : Nat) (h : i < l.length) : bytesV (l.take (i + 1)) = bytesV (l.take i) ++ putB (u64N l[i].stake) 8 ++ putB l[i].key.length 1 ++ l[i].key := by
  unfold bytesV
  rw [List.take_add_one, List.getElem?_eq_getElem h, Option.toList_some, List.flatMap_append]
  simp
end Go.SL

set_option linter.unusedVariables false
set_option linter.unusedSimpArgs false
namespace Go.SL
def cfgL (V : SlV) (ns : List Int) : List Value := SlV.v V :: ns.map (Value.int .i64)
def mx1 (x : Int) : Int := if x < 1 then 1 else x
def lessL (ns ls : List Int) (i : Nat) : List Int := (List.range 11).map fun j => if j < i then mx1 (ns.getD j 0 - ls.getD j 0) else ns.getD j 0
def ptrs11 (b : Nat) : List (Option Addr) := (List.range 11).map fun k => some ⟨b, k + 1, none⟩
def sameC (a b : Cfg) (xs ys : List Val) : Bool := decide (numsL a xs.length = numsL b ys.length) && decide (xs = ys)
theorem nums12_at (q : Cfg) (n j : Nat) (h : j < 12) (h1 : 2 * j < (numsL q n).length) (h3 : j < (nums12 q n).length) : (numsL q n)[2 * j] = (nums12 q n)[j] := by
  match j, h with
  | 0, _ => rfl
  | 1, _ => rfl
  | 2, _ => rfl
  | 3, _ => rfl
  | 4, _ => rfl
  | 5, _ => rfl
  | 6, _ => rfl
  | 7, _ => rfl
  | 8, _ => rfl
  | 9, _ => rfl
  | 10, _ => rfl
  | 11, _ => rfl
end Go.SL

set_option linter.unusedVariables false
set_option linter.unusedSimpArgs false
namespace Go.SL
open Go.Proofs

set_option maxRecDepth 100000 in
set_option maxHeartbeats 1000000 in
theorem In_calls {w0 w : World} {l : List HProp} (a b : Int) (hs : Sat w0 w (l))  :
  Calls Try.prog 95 #[.int .i64 a, .int .i64 b] w (Ret w0 fun v l' => v = .bool (inR (a, b)) ∧ l' = l) := by
 refine calls_enter Try.func95 rfl rfl rfl hs ?_
 refine Z0 ?_
 refine Zb ?_
 refine Z18 ?_
 refine Z5h ?_
 refine Z5 ?_
 refine ol_split 7 rfl (fun hb1 => ?_) (fun hb1 => ?_)
 ·have hp1 := hb1
  (try simp only [bn] at hp1)
  refine Z2q ?_
  refine Z2q ?_
  refine ol_q (wn_some rfl rfl rfl hb1 rfl) (op_le rfl rfl) rfl ?_
  refine Z20 ?_
  refine Zk ?_
  exact Zbx
 have hp1 := hb1
 (try simp only [bn] at hp1)
 refine Z4t ?_
 refine Z21 ?_
 refine Zk ?_
 exact Zbx

set_option maxRecDepth 100000 in
set_option maxHeartbeats 1000000 in
theorem Validator_calls {w0 w : World} {l : List HProp} (u : Val) (hs : Sat w0 w (l))  :
  Calls Try.prog 107 #[.agg (valC u).toArray] w (Ret w0 fun v l' => v = .bool (valOK u && decide (u.stake < 4611686018427387904)) ∧ l' = l) := by
 refine calls_enter Try.func107 rfl rfl rfl hs ?_
 refine Zj ?_; intro bx1
 refine Zb ?_
 refine Z0 ?_
 refine Zal ?_
 refine Z5h ?_
 refine Z5 ?_
 refine ol_split 6 rfl (fun hb1 => ?_) (fun hb1 => ?_)
 ·have hp1 := hb1
  (try simp only [bn] at hp1)
  refine ol_q (wn_some rfl rfl rfl hb1 rfl) (op_field fld_78_0 rfl) rfl ?_
  refine ol_q (wn_some rfl rfl rfl hb1 rfl) (op_ld 0 sc_3 rfl rfl (valC_a0 _)) rfl ?_
  refine Z5x ?_
  refine Z20 ?_
  refine Z5 ?_
  refine ol_split 11 rfl (fun hb2 => ?_) (fun hb2 => ?_)
  ·have hp2 := hb2
   (try simp only [bn] at hp2)
   refine ol_q (wn_some rfl rfl rfl hb2 rfl) (op_field fld_78_1 rfl) rfl ?_
   refine ol_q (wn_some rfl rfl rfl hb2 rfl) (op_ld 0 sc_9 rfl rfl (valC_a1 _)) rfl ?_
   refine ol_q (wn_some rfl rfl rfl hb2 rfl) (op_len_string Try.underlying9 rfl) rfl ?_
   refine ol_i (wn_some rfl rfl rfl hb2 rfl) (os_call cb_95 rfl (fun w s => In_calls (b := 32) _  s )) rfl ?_; rintro _ _ ⟨rfl, rfl⟩
   refine Z37 ?_
   refine Zk ?_
   exact Zaw
  have hp2 := hb2
  (try simp only [bn] at hp2)
  refine Z1g ?_
  refine Z1g ?_
  refine Z2v ?_
  refine Zk ?_
  exact Zaw
 have hp1 := hb1
 (try simp only [bn] at hp1)
 refine Z4t ?_
 refine Z21 ?_
 refine Z5p ?_
 refine Z49 ?_
 refine Z6v ?_
 refine Zk ?_
 exact Zaw

set_option maxRecDepth 100000 in
set_option maxHeartbeats 1000000 in
theorem Total_calls {w0 w : World} {l : List HProp} (ao : Option Addr) (c : Nat) (xs : List Val) (hs : Sat w0 w (l)) (hr : Rds w0 l encVal ao xs) (hxl : xs.length ≤ 1000000) :
  Calls Try.prog 94 #[.slice ao xs.length c] w (Ret w0 fun v l' => v = .tuple #[.int .i64 ((totF 0 xs).getD 0), .bool (totF 0 xs).isSome] ∧ l' = l) := by
 refine calls_enter Try.func94 rfl rfl rfl hs ?_
 refine Z0 ?_
 refine Zq ?_
 refine Zb ?_
 refine Z0 ?_
 refine Z8 ?_
 refine Z15 ?_
 refine Zm ?_
 refine Z4l ?_
 refine Z1l ?_
 refine cd_loop2 (α := Nat × Int) [(2, 4), (6, 6), (9, 27)] (fun x => [(4, .int .i64 x.2), (9, .int .i64 (x.1 : Int))]) (fun _ => _) (fun x => x.1 ≤ xs.length ∧ 0 ≤ x.2 ∧ x.2 < 4611686018427387904 ∧ totF 0 xs = totF x.2 (xs.drop x.1)) (fun x => xs.length - x.1) (0, 0) ⟨Nat.zero_le _, by decide, by decide, rfl⟩ ⟨rfl, rfl, trivial⟩ (fun _ s => s) ?_
 rintro ⟨i, s⟩ ⟨hi, hs0, hs1, heq⟩ f; (try dsimp only at hi hs0 hs1 heq ⊢)
 refine Zx ?_
 refine cd_cond rfl (fun hb1 => ?_) (fun hb1 => ?_)
 ·have hp1 := hb1
  (try simp only [bn] at hp1)
  refine Z33 ?_
  refine oq (op_index _ sB_63 rfl rfl rfl hr rfl (by omega)) ?_
  refine oq (op_ldaw (L := valC _) ag_78 hr rfl (by omega) rfl (valC_ta _)) ?_
  refine Z8v ?_; intro bx1
  refine Z8w ?_
  refine Z4c ?_
  refine oq (op_lda (L := valC _) 0 ag_78 rfl rfl (valC_ta _) (by simp [valC_len])) ?_
  refine oi (os_call cb_107 rfl (fun w s => Validator_calls _  s )) ?_; rintro _ _ ⟨rfl, rfl⟩
  refine Z3e ?_
  refine Z5 ?_
  refine ol_split 16 rfl (fun hb2 => ?_) (fun hb2 => ?_)
  ·have hp2 := hb2
   (try simp only [bn] at hp2)
   have hvo : ¬ (valOK xs[i] = true ∧ xs[i].stake < 4611686018427387904) := fun h => by have h3 := hb2; simp [h.1] at h3; omega
   refine Z1g ?_
   refine Z1g ?_
   refine Z5s ?_
   refine Z37 ?_
   refine Z2b ?_
   refine Z0 ?_
   refine Zq ?_
   refine Zv ?_
   refine Z1z ?_
   have e : totF 0 xs = none := by rw [heq, totF_drop (by omega), if_neg (fun h => hvo ⟨h.1, by omega⟩)]
   rw [e]
   exact Z7e
  have hp2 := hb2
  (try simp only [bn] at hp2)
  have hvo : valOK xs[i] = true ∧ xs[i].stake < 4611686018427387904 := by simpa using hb2
  have hvo2 := of_decide_eq_true hvo.1
  refine Z4i ?_
  refine ol_q (wn_some rfl rfl rfl hb2 rfl) (op_field fld_78_0 rfl) rfl ?_
  refine ol_q (wn_some rfl rfl rfl hb2 rfl) (op_ld 0 sc_3 rfl rfl (valC_a0 _)) rfl ?_
  refine ol_q (wn_some rfl rfl rfl hb2 rfl) (op_add rfl rfl (by omega) (by omega)) rfl ?_
  refine ol_q (wn_some rfl rfl rfl hb2 rfl) (op_ge rfl rfl) rfl ?_
  refine Z2v ?_
  refine Z1 ?_
  refine cd_cond rfl (fun hb3 => ?_) (fun hb3 => ?_)
  ·have hp3 := hb3
   (try simp only [bn] at hp3)
   refine Z0 ?_
   refine Zq ?_
   refine Zv ?_
   refine Z1z ?_
   have e : totF 0 xs = none := by rw [heq, totF_drop (by omega), if_neg (by omega)]
   rw [e]
   exact Z7e
  have hp3 := hb3
  (try simp only [bn] at hp3)
  refine Za ?_
  refine Z1b ?_
  refine Z4 ?_
  refine Zal ?_
  refine Zb7 ?_
  refine Z5o ?_
  have e1 : totF 0 xs = totF (s + xs[i].stake) (xs.drop (i + 1)) := by rw [heq, totF_drop (by omega), if_pos ⟨hvo.1, by omega⟩]
  refine px_loop2 (i + 1, s + xs[i].stake) ⟨by dsimp only; omega, by dsimp only; omega, by dsimp only; omega, e1⟩ (by (try dsimp only); omega) ⟨rfl, congrArg (Value.int .i64) (by simp), trivial⟩ ?_ (fun _ s => (s.del 0))
  exact Z2
 have hp1 := hb1
 (try simp only [bn] at hp1)
 refine Z1e ?_
 refine Z18 ?_
 refine Zq ?_
 refine Zk ?_
 have e : totF 0 xs = some s := by rw [heq, totF_end (by omega)]
 rw [e]
 exact px_ret2 rfl (v1 := .int _ _) (v2 := .bool _) rfl rfl (fun _ s => s) ⟨rfl, rfl⟩

set_option maxRecDepth 100000 in
set_option maxHeartbeats 1000000 in
theorem Great_calls {w0 w : World} {l : List HProp} (ao : Option Addr) (c : Nat) (xs : List Val) (n1 n2 n3 n4 n5 n6 n7 n8 n9 n10 n11 : Int) (hs : Sat w0 w (l)) (hr : Rds w0 l encVal ao xs) :
  Calls Try.prog 65 #[.agg (cfgC ⟨⟨ao, xs.length, c⟩, n1, n2, n3, n4, n5, n6, n7, n8, n9, n10, n11⟩).toArray] w (Ret w0 fun v l' => v = .bool (greatC xs) ∧ l' = l) := by
 refine calls_enter Try.func65 rfl rfl rfl hs ?_
 refine Zj ?_; intro bx1
 refine Zb ?_
 refine Z15 ?_
 refine Z44 ?_
 refine Z7f ?_
 refine Z4l ?_
 refine oq (op_gt rfl rfl) ?_
 refine Z1 ?_
 refine cd_cond rfl (fun hb1 => ?_) (fun hb1 => ?_)
 ·have hp1 := hb1
  (try simp only [bn] at hp1)
  refine Z0 ?_
  refine Zv ?_
  exact px_ret1 rfl (v := .bool _) rfl (fun _ s => (s.del 0)) ⟨congrArg Value.bool (by unfold greatC; rw [decide_eq_true (by omega)]; rfl), rfl⟩
 have hp1 := hb1
 (try simp only [bn] at hp1)
 refine Za ?_
 refine Z15 ?_
 refine Z44 ?_
 refine Z7f ?_
 refine Z4l ?_
 refine Z1l ?_
 refine cd_loop2 (α := Nat) [(2, 2), (4, 4), (12, 20)] (fun x => [(12, .int .i64 (x : Int))]) (fun _ => _) (fun x => x ≤ xs.length ∧ ∀ j (h : j < xs.length), j < x → xs[j].key.length ≤ 200) (fun x => xs.length - x) 0 ⟨Nat.zero_le _, fun j h h2 => absurd h2 (Nat.not_lt_zero _)⟩ ⟨rfl, trivial⟩ (fun _ s => s) ?_
 rintro i ⟨hi, hno⟩ f; (try dsimp only at hi hno ⊢)
 refine Zx ?_
 refine cd_cond rfl (fun hb2 => ?_) (fun hb2 => ?_)
 ·have hp2 := hb2
  (try simp only [bn] at hp2)
  refine Z33 ?_
  refine oq (op_index _ sB_63 rfl rfl rfl (hr.cons _) rfl (by omega)) ?_
  refine oq (op_ldaw (L := valC _) ag_78 (hr.cons _) rfl (by omega) rfl (valC_ta _)) ?_
  refine Z8v ?_; intro bx2
  refine Z8w ?_
  refine Z19 ?_
  refine oq (op_field fld_78_1 rfl) ?_
  refine oq (op_ld 0 sc_9 rfl rfl (valC_a1 _)) ?_
  refine oq (op_len_string Try.underlying9 rfl) ?_
  refine oq (op_gt rfl rfl) ?_
  refine Z1 ?_
  refine cd_cond rfl (fun hb3 => ?_) (fun hb3 => ?_)
  ·have hp3 := hb3
   (try simp only [bn] at hp3)
   have hk1 := of_decide_eq_true hb3
   refine Z0 ?_
   refine Zk ?_
   refine Z1z ?_
   exact px_ret1 rfl (v := .bool _) rfl (fun _ s => ((s.del 1).del 0)) ⟨congrArg Value.bool (by unfold greatC; symm; rw [Bool.or_eq_true]; right; exact List.any_eq_true.2 ⟨xs[i], List.getElem_mem _, decide_eq_true (by omega)⟩), rfl⟩
  have hp3 := hb3
  (try simp only [bn] at hp3)
  have hk1 := of_decide_eq_false hb3
  refine Z34 ?_
  refine px_loop2 (i + 1) ⟨by omega, fun j h h2 => by rcases Nat.lt_succ_iff_lt_or_eq.1 h2 with h3 | h3; exact hno j h h3; subst h3; omega⟩ (by (try dsimp only); omega) ⟨congrArg (Value.int .i64) (by simp), trivial⟩ ?_ (fun _ s => (s.del 0))
  exact Z2
 have hp2 := hb2
 (try simp only [bn] at hp2)
 refine Z2d ?_
 refine Zk ?_
 exact px_ret1 rfl (v := .bool _) rfl (fun _ s => (s.del 0)) ⟨congrArg Value.bool (by unfold greatC; symm; rw [Bool.or_eq_false_iff]; refine ⟨decide_eq_false (by omega), List.any_eq_false.2 fun u hu => ?_⟩; obtain ⟨j, hj, rfl⟩ := List.mem_iff_getElem.1 hu; have := hno j hj (by omega); simp; omega), rfl⟩

set_option maxRecDepth 100000 in
set_option maxHeartbeats 1000000 in
theorem Index_calls {w0 w : World} {l : List HProp} (ao : Option Addr) (c : Nat) (xs : List Bool) (b : Bool) (hs : Sat w0 w (l)) (hr : Rds w0 l encBool ao xs) (hxl : xs.length ≤ 1000000) :
  Calls Try.prog 108 #[.slice ao xs.length c, .bool b] w (Ret w0 fun v l' => v = .int .i64 (idxB xs b) ∧ l' = l) := by
 refine calls_enter Try.func108 rfl rfl rfl hs ?_
 refine Z0 ?_
 refine Z8 ?_
 refine Z15 ?_
 refine Zm ?_
 refine oq (op_len_slice Try.underlying133 rfl) ?_
 refine Z1l ?_
 refine cd_loop2 (α := Nat) [(4, 5), (8, 18)] (fun x => [(8, .int .i64 (x : Int))]) (fun _ => _) (fun x => x ≤ xs.length ∧ ∀ j (h : j < xs.length), j < x → b ≠ xs[j]) (fun x => xs.length - x) 0 ⟨Nat.zero_le _, fun j h h2 => absurd h2 (Nat.not_lt_zero _)⟩ ⟨rfl, trivial⟩ (fun _ s => s) ?_
 rintro i ⟨hi, hno⟩ f; (try dsimp only at hi hno ⊢)
 refine Zx ?_
 refine cd_cond rfl (fun hb1 => ?_) (fun hb1 => ?_)
 ·have hp1 := hb1
  (try simp only [bn] at hp1)
  refine Z2t ?_
  refine Z8 ?_
  refine Z0 ?_
  refine Z5 ?_
  refine Zm ?_
  refine Z4 ?_
  refine oq (op_index _ sB_133 rfl rfl rfl hr rfl (by omega)) ?_
  refine oq (op_ldw sc_4 hr rfl (by omega) rfl) ?_
  refine oq (op_beql Try.underlying4 rfl rfl) ?_
  refine Z1 ?_
  refine cd_cond rfl (fun hb2 => ?_) (fun hb2 => ?_)
  ·have hp2 := hb2
   (try simp only [bn] at hp2)
   have hbb : b = xs[i] := by simpa using hb2
   refine Z3b ?_
   refine Z1z ?_
   exact px_ret1 rfl (v := .int _ _) rfl (fun _ s => s) ⟨congrArg (Value.int .i64) ((idxB_some (by omega) hbb hno).symm), rfl⟩
  have hp2 := hb2
  (try simp only [bn] at hp2)
  have hbb : b ≠ xs[i] := by simpa using hb2
  refine Z34 ?_
  refine px_loop2 (i + 1) ⟨by omega, fun j h h2 => by rcases Nat.lt_succ_iff_lt_or_eq.1 h2 with h3 | h3; exact hno j h h3; subst h3; exact hbb⟩ (by (try dsimp only); omega) ⟨congrArg (Value.int .i64) (by simp), trivial⟩ ?_ (fun _ s => s)
  exact Z2
 have hp1 := hb1
 (try simp only [bn] at hp1)
 refine Z1e ?_
 refine Z1c ?_
 exact px_ret1 rfl (v := .int _ _) rfl (fun _ s => s) ⟨congrArg (Value.int .i64) ((idxB_none fun j hj => hno j hj (by omega)).symm), rfl⟩

set_option maxRecDepth 100000 in
set_option maxHeartbeats 1000000 in
theorem Contains_calls {w0 w : World} {l : List HProp} (ao : Option Addr) (c : Nat) (xs : List Bool) (b : Bool) (hs : Sat w0 w (l)) (hr : Rds w0 l encBool ao xs) (hxl : xs.length ≤ 1000000) :
  Calls Try.prog 96 #[.slice ao xs.length c, .bool b] w (Ret w0 fun v l' => v = .bool (xs.contains b) ∧ l' = l) := by
 refine calls_enter Try.func96 rfl rfl rfl hs ?_
 refine Z0 ?_
 refine Zb ?_
 refine Z0 ?_
 refine Zm ?_
 refine Z5 ?_
 refine oi (os_call cb_108 rfl (fun w s => Index_calls _ _ _ _  s hr (by first | omega | (simp; done) | (simp; omega)))) ?_; rintro _ _ ⟨rfl, rfl⟩
 refine Z5h ?_
 refine Zk ?_
 exact px_ret1 rfl (v := .bool _) rfl (fun _ s => s) ⟨congrArg Value.bool (by rw [← idxB_contains]), rfl⟩
end Go.SL

set_option linter.unusedVariables false
set_option linter.unusedSimpArgs false
namespace Go.SL
open Go.Proofs

set_option maxRecDepth 100000 in
set_option maxHeartbeats 1000000 in
theorem Put_calls {w0 w : World} {l : List HProp} (ao : Option Addr) (c : Nat) (bs : List UInt8) (A : Nat) (wd : Int) (hs : Sat w0 w ((Row 5 encU8 (.slice ao bs.length c) bs) :: l)) (hA : A < 18446744073709551616) (hbs : bs.length ≤ 1000000) :
  Calls Try.prog 112 #[.slice ao bs.length c, .int .u64 (A : Int), .int .i64 wd] w (Ret w0 fun v l' => ∃ ao c, v = .slice ao (bs ++ putB A (clamp8 wd)).length c ∧ l' = Row 5 encU8 (.slice ao (bs ++ putB A (clamp8 wd)).length c) (bs ++ putB A (clamp8 wd)) :: l) := by
 refine calls_enter Try.func112 rfl rfl rfl hs ?_
 refine Z0 ?_
 refine Zw ?_
 refine Z1 ?_
 refine Zf ?_
 refine oq (op_max rfl rfl) ?_
 refine oq (op_min rfl rfl) ?_
 refine Z1l ?_
 refine cd_loop (α := Nat × Option Addr × Nat) (fun x => [(0, .slice x.2.1 (bs ++ putB A x.1).length x.2.2), (1, .int .u64 ((A / 256 ^ x.1 : Nat) : Int)), (9, .int .i64 (clamp8 wd : Int)), (10, .int .i64 x.1)]) (fun x => Row 5 encU8 (.slice x.2.1 (bs ++ putB A x.1).length x.2.2) (bs ++ putB A x.1) :: l) (fun x => x.1 ≤ clamp8 wd) (fun x => clamp8 wd - x.1) (0, ao, c) (Nat.zero_le _) ⟨by rw [putB, List.append_nil]; rfl, congrArg (Value.int .u64) (show (A : Int) = _ by simp), congrArg (Value.int .i64) (clamp8_if wd), rfl, trivial⟩ (fun _ s => by simpa [putB] using s) ?_
 rintro ⟨k, v1, v2⟩ hk f; dsimp only at hk ⊢; have hc := clamp8_le wd; have hcd : (clamp8 wd : Int) = min (max wd 0) 8 := by unfold clamp8; omega
 refine Zx ?_
 refine cd_cond rfl (fun hb1 => ?_) (fun hb1 => ?_)
 ·have hp1 := hb1
  (try simp only [bn] at hp1)
  refine Z33 ?_
  refine Zm ?_
  refine Z4 ?_
  refine oq (op_conv8 Try.underlying5 (by rw [Try.underlying142]; rfl) rfl) ?_
  refine oi (os_bslice (E := encU8) [_] (ys := [_]) sB_162 zv_5 rfl rfl rfl rfl (by decide)) ?_; rintro _ _ ⟨ao1, rfl, rfl⟩
  refine Z9 ?_
  refine oi (os_append (E := encU8) rfl sB_162 zv_5 rfl rfl rfl (fun w s => (rds_row 1 rfl rfl) [] w s) rfl (by simp [putB_length]; omega) (by unfold maxLen; simp [putB_length]; omega)) ?_; rintro _ _ ⟨ao2, ac2, rfl, rfl⟩
  refine Zw ?_
  refine Z1 ?_
  refine Z1b ?_
  refine Z4 ?_
  refine oq (op_shr_nat (m := 8) rfl rfl (by decide)) ?_
  refine Z2s ?_
  refine Z5o ?_
  have hk1 : k < clamp8 wd := by omega
  have e1 : bs ++ putB A k ++ [UInt8.ofNat (A / 256 ^ k)] = bs ++ putB A (k + 1) := by simp [putB]
  exact px_loop (k + 1, ao2, ac2) hk1 (by dsimp only; omega) ⟨congrArg (fun q => Value.slice ao2 (List.length q) ac2) e1, congrArg (Value.int .u64) (by simp [Nat.pow_succ, Nat.div_div_eq_div_mul]), rfl, congrArg (Value.int .i64) (by simp), trivial⟩ (fun _ s => by rw [e1] at s; exact s.del 1)
 have hp1 := hb1
 (try simp only [bn] at hp1)
 refine Z2d ?_
 refine Zm ?_
 refine Zw ?_
 refine Z1s ?_
 have e1 : k = clamp8 wd := by omega
 subst e1
 exact px_ret1 rfl (v := .slice _ _ _) rfl (fun _ s => s) ⟨_, _, rfl, rfl⟩

set_option maxRecDepth 100000 in
set_option maxHeartbeats 1000000 in
theorem RPut_calls {w0 w : World} {l : List HProp} (k A : Nat) (wd : Int) (hs : Sat w0 w (l)) (hk : clamp8 wd = k) (hA : A < 18446744073709551616) :
  Calls Try.prog 103 #[.int .u64 (A : Int), .int .i64 wd] w (Ret w0 fun v l' => v = .string (B (putB A k)) ∧ l' = l) := by
 induction k using Nat.strongRecOn generalizing w l A wd with | _ k ih => ?_
 refine calls_enter Try.func103 rfl rfl rfl hs ?_
 refine Z0 ?_
 refine Z45 ?_
 refine Z1 ?_
 refine Zf ?_
 refine oq (op_le rfl rfl) ?_
 refine Z1 ?_
 refine cd_cond rfl (fun hb1 => ?_) (fun hb1 => ?_)
 ·have hp1 := hb1
  (try simp only [bn] at hp1)
  refine Z0 ?_
  refine Z45 ?_
  refine Z1s ?_
  refine Z13 ?_
  have e : k = 0 := by subst hk; unfold clamp8; omega
  subst e
  exact px_ret1 rfl (v := .string _) rfl (fun _ s => s) ⟨rfl, rfl⟩
 have hp1 := hb1
 (try simp only [bn] at hp1)
 refine Zn ?_
 refine cd_drawe (M := []) mx [3, 4, 10] ?_
 refine Z6h ?_
 refine e_q 1 rfl (wn_none rfl) (op_remn (C := 256) rfl rfl (by first | decide | omega)) ?_
 refine e_q 2 rfl (wn_none rfl) (op_conv8 Try.underlying5 (by rw [Try.underlying142]; rfl) rfl) ?_
 refine Z8x ?_
 refine e_q 6 rfl (wn_none rfl) (op_quon (C := 256) rfl rfl (by first | decide | omega) (by omega)) ?_
 refine e_q 7 rfl (wn_none rfl) (op_move (v := .int _ _) rfl) ?_
 refine e_q 8 rfl (wn_none rfl) (op_min rfl rfl) ?_
 refine e_q 9 rfl (wn_none rfl) (op_sub rfl rfl (by omega) (by omega)) ?_
 refine et_2 (i1 := 3) (i2 := 10) (by kernel_rfl) ?_ ?_
 ·
  refine ei_i rfl rfl (wn_none rfl) (os_bslice (E := encU8) [_] (ys := [_]) sB_162 zv_5 rfl rfl rfl rfl (by decide)) rfl ?_; rintro _ _ ⟨ao1, rfl, rfl⟩; refine ⟨[_], rfl, ?_⟩
  refine et_2 (i1 := 4) (i2 := 10) (by kernel_rfl) ?_ ?_
  ·
   refine Zax ?_
   refine Z1f ?_
   refine Zby ?_
   refine Zay ?_
   refine e_q 12 rfl (wn_none rfl) (op_assign (v := .string _) rfl) ?_
   refine Z1t ?_
   exact Zaz
  refine Zby ?_
  refine Z2g ?_
  refine Zax ?_
  refine Zay ?_
  refine e_q 12 rfl (wn_none rfl) (op_assign (v := .string _) rfl) ?_
  refine Z1t ?_
  exact Zaz
 refine ei_i rfl rfl (wn_none rfl) (os_call cb_103 rfl (fun w s => ih _ (by rw [← hk, clamp8_pred hp1]; exact Nat.lt_succ_self _) _ _   s rfl (by omega))) rfl ?_; rintro _ _ ⟨rfl, rfl⟩; refine ⟨[], rfl, ?_⟩
 refine et_1 (i := 3) (by kernel_rfl) ?_
 refine ei_i rfl rfl (wn_none rfl) (os_bslice (E := encU8) [_] (ys := [_]) sB_162 zv_5 rfl rfl rfl rfl (by decide)) rfl ?_; rintro _ _ ⟨ao2, rfl, rfl⟩; refine ⟨[_], rfl, ?_⟩
 refine Z2g ?_
 refine Zax ?_
 refine Zay ?_
 refine e_q 12 rfl (wn_none rfl) (op_assign (v := .string _) rfl) ?_
 refine Z1t ?_
 exact Zaz
end Go.SL

set_option linter.unusedVariables false
set_option linter.unusedSimpArgs false
namespace Go.SL
open Go.Proofs

set_option maxRecDepth 100000 in
set_option maxHeartbeats 1000000 in
theorem RTotal_calls {w0 w : World} {l : List HProp} (ao : Option Addr) (c : Nat) (xs : List Val) (hs : Sat w0 w (l)) (hr : Rds w0 l encVal ao xs) (hxl : xs.length ≤ 1000000) (hq : ∀ y ∈ xs, I64 y.stake ∧ y.key.length ≤ maxLen) :
  Calls Try.prog 104 #[.slice ao xs.length c] w (Ret w0 fun v l' => v = .tuple #[.int .i64 ((totF 0 xs).getD 0), .bool (totF 0 xs).isSome] ∧ l' = l) := by
 refine calls_enter Try.func104 rfl rfl rfl hs ?_
 refine Z0 ?_
 refine Zq ?_
 refine Zb ?_
 refine Z0 ?_
 refine Z8 ?_
 refine Z15 ?_
 refine Zm ?_
 refine Z4l ?_
 refine Z1l ?_
 refine cd_loop2 (α := Nat × Nat) [(2, 4), (6, 6), (9, 35)] (fun x => [(4, .int .u64 (x.2 : Int)), (9, .int .i64 (x.1 : Int))]) (fun _ => _) (fun x => x.1 ≤ xs.length ∧ x.2 < 4611686018427387904 ∧ totF 0 xs = totF (x.2 : Int) (xs.drop x.1)) (fun x => xs.length - x.1) (0, 0) ⟨Nat.zero_le _, by decide, rfl⟩ ⟨rfl, rfl, trivial⟩ (fun _ s => s) ?_
 rintro ⟨i, s⟩ ⟨hi, hs1, heq⟩ f; (try dsimp only at hi hs1 heq ⊢)
 refine Zx ?_
 refine cd_cond rfl (fun hb1 => ?_) (fun hb1 => ?_)
 ·have hp1 := hb1
  (try simp only [bn] at hp1)
  refine Z33 ?_
  refine oq (op_index _ sB_63 rfl rfl rfl hr rfl (by omega)) ?_
  refine oq (op_ldaw (L := valC _) ag_78 hr rfl (by omega) rfl (valC_ta _)) ?_
  refine Z8v ?_; intro bx1
  refine Z8w ?_
  refine Z4c ?_
  refine Zal ?_
  refine Z4y ?_
  refine Z5 ?_
  refine ol_split 16 rfl (fun hb2 => ?_) (fun hb2 => ?_)
  ·have hp2 := hb2
   (try simp only [bn] at hp2)
   have hvo : ¬ valOK xs[i] = true := fun h => by have h4 := of_decide_eq_true h; have h3 := of_decide_eq_true hb2; omega
   refine Z1g ?_
   refine Z1g ?_
   refine Z37 ?_
   refine Z5p ?_
   refine Z49 ?_
   refine Z6b ?_
   refine Z2b ?_
   refine Z0 ?_
   refine Zq ?_
   refine Zv ?_
   refine Z1z ?_
   have e : totF 0 xs = none := by rw [heq, totF_drop (by omega), if_neg (fun h => hvo h.1)]
   rw [e]
   exact Z7e
  have hp2 := hb2
  (try simp only [bn] at hp2)
  refine ol_q (wn_some rfl rfl rfl hb2 rfl) (op_field fld_78_1 rfl) rfl ?_
  refine ol_q (wn_some rfl rfl rfl hb2 rfl) (op_ld 0 sc_9 rfl rfl (valC_a1 _)) rfl ?_
  refine ol_q (wn_some rfl rfl rfl hb2 rfl) (op_len_string Try.underlying9 rfl) rfl ?_
  refine Z8g ?_
  refine Z2v ?_
  refine Z5 ?_
  refine ol_split 22 rfl (fun hb3 => ?_) (fun hb3 => ?_)
  ·have hp3 := hb3
   (try simp only [bn] at hp3)
   have hvo : ¬ valOK xs[i] = true := fun h => by have h4 := of_decide_eq_true h; have h3 := of_decide_eq_true hb3; omega
   refine Z2p ?_
   refine Z2p ?_
   refine Z4j ?_
   refine Z2b ?_
   refine Z0 ?_
   refine Zq ?_
   refine Zv ?_
   refine Z1z ?_
   have e : totF 0 xs = none := by rw [heq, totF_drop (by omega), if_neg (fun h => hvo h.1)]
   rw [e]
   exact Z7e
  have hp3 := hb3
  (try simp only [bn] at hp3)
  refine ol_q (wn_some rfl rfl rfl hb3 rfl) (op_field fld_78_1 rfl) rfl ?_
  refine ol_q (wn_some rfl rfl rfl hb3 rfl) (op_ld 0 sc_9 rfl rfl (valC_a1 _)) rfl ?_
  refine ol_q (wn_some rfl rfl rfl hb3 rfl) (op_len_string Try.underlying9 rfl) rfl ?_
  refine Z5t ?_
  refine Z5g ?_
  refine Z1 ?_
  refine cd_cond rfl (fun hb4 => ?_) (fun hb4 => ?_)
  ·have hp4 := hb4
   (try simp only [bn] at hp4)
   have hvo : ¬ valOK xs[i] = true := fun h => by have h4 := of_decide_eq_true h; have h3 := of_decide_eq_true hb4; omega
   refine Z0 ?_
   refine Zq ?_
   refine Zv ?_
   refine Z1z ?_
   have e : totF 0 xs = none := by rw [heq, totF_drop (by omega), if_neg (fun h => hvo h.1)]
   rw [e]
   exact Z7e
  have hp4 := hb4
  (try simp only [bn] at hp4)
  have hvk : valOK xs[i] = true := decide_eq_true (by omega)
  have hi64 := (hq xs[i] (List.getElem_mem _)).1
  unfold I64 at hi64
  have hu : u64N xs[i].stake = xs[i].stake.toNat := u64N_nat (by omega) (by omega)
  refine Za ?_
  refine Z18 ?_
  refine Zal ?_
  refine oq (op_conv64i Try.underlying142 (by rw [Try.underlying3]; rfl) rfl) ?_
  refine oq (op_addn rfl rfl (by omega)) ?_
  refine Z1r ?_
  refine Z3s ?_
  refine cd_cond rfl (fun hb5 => ?_) (fun hb5 => ?_)
  ·have hp5 := hb5
   (try simp only [bn] at hp5)
   refine Z0 ?_
   refine Zq ?_
   refine Zk ?_
   refine Z1z ?_
   have e : totF 0 xs = none := by rw [heq, totF_drop (by omega), if_neg (by omega)]
   rw [e]
   exact Z7e
  have hp5 := hb5
  (try simp only [bn] at hp5)
  refine Z34 ?_
  have e0 : ((s + xs[i].stake.toNat : Nat) : Int) = (s : Int) + xs[i].stake := by omega
  have e1 : totF 0 xs = totF ((s + xs[i].stake.toNat : Nat) : Int) (xs.drop (i + 1)) := by rw [heq, totF_drop (by omega), if_pos ⟨hvk, by omega⟩, e0]
  refine px_loop2 (i + 1, s + xs[i].stake.toNat) ⟨by dsimp only; omega, by dsimp only; omega, e1⟩ (by (try dsimp only); omega) ⟨congrArg (Value.int .u64) (by rw [hu] <;> simp), congrArg (Value.int .i64) (by simp), trivial⟩ ?_ (fun _ s => (s.del 0))
  exact Z2
 have hp1 := hb1
 (try simp only [bn] at hp1)
 refine Z1e ?_
 refine Z18 ?_
 refine oq (op_convint Try.underlying3 (by rw [Try.underlying142]; rfl) rfl (by omega)) ?_
 refine Zq ?_
 refine Zk ?_
 have e : totF 0 xs = some (s : Int) := by rw [heq, totF_end (by omega)]
 rw [e]
 exact px_ret2 rfl (v1 := .int _ _) (v2 := .bool _) rfl rfl (fun _ s => s) ⟨rfl, rfl⟩

set_option maxRecDepth 100000 in
set_option maxHeartbeats 1000000 in
theorem Numbers_calls {w0 w : World} {l : List HProp} (ao : Option Addr) (c : Nat) (xs : List Val) (n1 n2 n3 n4 n5 n6 n7 n8 n9 n10 n11 : Int) (hs : Sat w0 w (l)) (hr : Rds w0 l encVal ao xs) :
  Calls Try.prog 102 #[.agg (cfgC ⟨⟨ao, xs.length, c⟩, n1, n2, n3, n4, n5, n6, n7, n8, n9, n10, n11⟩).toArray] w (Ret w0 fun v l' => ∃ ro rc, v = .slice ro (numsL ⟨⟨ao, xs.length, c⟩, n1, n2, n3, n4, n5, n6, n7, n8, n9, n10, n11⟩ xs.length).length rc ∧ l' = Row 3 encI64 (.slice ro (numsL ⟨⟨ao, xs.length, c⟩, n1, n2, n3, n4, n5, n6, n7, n8, n9, n10, n11⟩ xs.length).length rc) (numsL ⟨⟨ao, xs.length, c⟩, n1, n2, n3, n4, n5, n6, n7, n8, n9, n10, n11⟩ xs.length) :: l) := by
 refine calls_enter Try.func102 rfl rfl rfl hs ?_
 refine Zj ?_; intro bx1
 refine Zw ?_
 refine Z19 ?_
 refine oq (op_field fld_65_1 rfl) ?_
 refine oq (op_ld 0 sc_3 rfl rfl (cfgC_a1 _)) ?_
 refine oq (op_field fld_65_2 rfl) ?_
 refine oq (op_ld 0 sc_3 rfl rfl (cfgC_a2 _)) ?_
 refine Z44 ?_
 refine Z7f ?_
 refine Z4l ?_
 refine oq (op_min rfl rfl) ?_
 refine oq (op_field fld_65_3 rfl) ?_
 refine oq (op_ld 0 sc_3 rfl rfl (cfgC_a3 _)) ?_
 refine oq (op_field fld_65_4 rfl) ?_
 refine oq (op_ld 0 sc_3 rfl rfl (cfgC_a4 _)) ?_
 refine oq (op_field fld_65_5 rfl) ?_
 refine oq (op_ld 0 sc_3 rfl rfl (cfgC_a5 _)) ?_
 refine oq (op_field fld_65_6 rfl) ?_
 refine oq (op_ld 0 sc_3 rfl rfl (cfgC_a6 _)) ?_
 refine oq (op_field fld_65_7 rfl) ?_
 refine oq (op_ld 0 sc_3 rfl rfl (cfgC_a7 _)) ?_
 refine oq (op_field fld_65_8 rfl) ?_
 refine oq (op_ld 0 sc_3 rfl rfl (cfgC_a8 _)) ?_
 refine oq (op_field fld_65_9 rfl) ?_
 refine oq (op_ld 0 sc_3 rfl rfl (cfgC_a9 _)) ?_
 refine oq (op_field fld_65_10 rfl) ?_
 refine oq (op_ld 0 sc_3 rfl rfl (cfgC_a10 _)) ?_
 refine oq (op_field fld_65_11 rfl) ?_
 refine oq (op_ld 0 sc_3 rfl rfl (cfgC_a11 _)) ?_
 refine Z44 ?_
 refine Z7f ?_
 refine Z4l ?_
 refine oi (os_bslice (E := encI64) [_, _, _, _, _, _, _, _, _, _, _, _, _, _, _, _, _, _, _, _, _, _, _, _] (ys := [_, _, _, _, _, _, _, _, _, _, _, _, _, _, _, _, _, _, _, _, _, _, _, _]) sB_42 zv_3 rfl rfl rfl rfl (by decide)) ?_; rintro _ _ ⟨ao1, rfl, rfl⟩
 refine Zw ?_
 refine Z1s ?_
 exact px_ret1 rfl (v := .slice _ _ _) rfl (fun _ s => (s.del 1)) ⟨_, _, rfl, rfl⟩

set_option maxRecDepth 100000 in
set_option maxHeartbeats 1000000 in
theorem Good_calls {w0 w : World} {l : List HProp} (ao : Option Addr) (c : Nat) (xs : List Val) (n1 n2 n3 n4 n5 n6 n7 n8 n9 n10 n11 : Int) (hs : Sat w0 w (l)) (hr : Rds w0 l encVal ao xs) (hxl : xs.length ≤ 1000000) :
  Calls Try.prog 83 #[.agg (cfgC ⟨⟨ao, xs.length, c⟩, n1, n2, n3, n4, n5, n6, n7, n8, n9, n10, n11⟩).toArray] w (Ret w0 fun v l' => v = .bool (goodC ⟨⟨ao, xs.length, c⟩, n1, n2, n3, n4, n5, n6, n7, n8, n9, n10, n11⟩ xs) ∧ l' = l) := by
 refine calls_enter Try.func83 rfl rfl rfl hs ?_
 refine Zj ?_; intro bx1
 refine Zb ?_
 refine Z15 ?_
 refine Z44 ?_
 refine Z7f ?_
 refine oi (os_call cb_94 rfl (fun w s => Total_calls _ _ _  s (hr.cons _) (by first | omega | (simp; done) | (simp; omega)))) ?_; rintro _ _ ⟨rfl, rfl⟩
 refine Z38 ?_
 refine Z3l ?_
 refine Z52 ?_
 refine Zq ?_
 refine Zb ?_
 refine Z0 ?_
 refine Zba ?_
 refine Z5 ?_
 refine ol_split 14 rfl (fun hb1 => ?_) (fun hb1 => ?_)
 ·have hp1 := hb1
  (try simp only [bn] at hp1)
  refine Z3o ?_
  refine Z8e ?_
  refine Z20 ?_
  refine Z2b ?_
  refine Z0 ?_
  refine Zv ?_
  exact px_ret1 rfl (v := .bool _) rfl (fun _ s => (s.del 0)) ⟨congrArg Value.bool (by unfold goodC numsC; simp_all), rfl⟩
 have hp1 := hb1
 (try simp only [bn] at hp1)
 refine ol_q (wn_some rfl rfl rfl hb1 rfl) (op_field fld_65_0 rfl) rfl ?_
 refine ol_q (wn_some rfl rfl rfl hb1 rfl) (op_ld 0 sc_63 rfl rfl (cfgC_a0 _)) rfl ?_
 refine ol_q (wn_some rfl rfl rfl hb1 rfl) (op_len_slice Try.underlying63 rfl) rfl ?_
 refine ol_i (wn_some rfl rfl rfl hb1 rfl) (os_call cb_95 rfl (fun w s => In_calls (b := 64) _  s )) rfl ?_; rintro _ _ ⟨rfl, rfl⟩
 refine ol_q (wn_some rfl rfl rfl hb1 rfl) (op_not rfl) rfl ?_
 refine Z21 ?_
 refine Z1 ?_
 refine cd_cond rfl (fun hb2 => ?_) (fun hb2 => ?_)
 ·have hp2 := hb2
  (try simp only [bn] at hp2)
  refine Z0 ?_
  refine Zv ?_
  exact px_ret1 rfl (v := .bool _) rfl (fun _ s => (s.del 0)) ⟨congrArg Value.bool (by unfold goodC numsC; simp_all), rfl⟩
 have hp2 := hb2
 (try simp only [bn] at hp2)
 refine Zn ?_
 refine cd_drawe (M := []) mx [2, 9, 12, 15, 18, 21, 24, 27, 30, 33, 36, 37] ?_
 refine e_q 0 rfl (wn_none rfl) (op_field fld_65_1 rfl) ?_
 refine e_q 1 rfl (wn_none rfl) (op_ld 0 sc_3 rfl rfl (cfgC_a1 _)) ?_
 refine e_q 3 rfl (wn_none rfl) (op_field fld_65_2 rfl) ?_
 refine e_q 4 rfl (wn_none rfl) (op_ld 0 sc_3 rfl rfl (cfgC_a2 _)) ?_
 refine e_q 5 rfl (wn_none rfl) (op_field fld_65_0 rfl) ?_
 refine e_q 6 rfl (wn_none rfl) (op_ld 0 sc_63 rfl rfl (cfgC_a0 _)) ?_
 refine e_q 7 rfl (wn_none rfl) (op_len_slice Try.underlying63 rfl) ?_
 refine e_q 8 rfl (wn_none rfl) (op_min rfl rfl) ?_
 refine e_q 10 rfl (wn_none rfl) (op_field fld_65_3 rfl) ?_
 refine e_q 11 rfl (wn_none rfl) (op_ld 0 sc_3 rfl rfl (cfgC_a3 _)) ?_
 refine e_q 13 rfl (wn_none rfl) (op_field fld_65_4 rfl) ?_
 refine e_q 14 rfl (wn_none rfl) (op_ld 0 sc_3 rfl rfl (cfgC_a4 _)) ?_
 refine e_q 16 rfl (wn_none rfl) (op_field fld_65_5 rfl) ?_
 refine e_q 17 rfl (wn_none rfl) (op_ld 0 sc_3 rfl rfl (cfgC_a5 _)) ?_
 refine e_q 19 rfl (wn_none rfl) (op_field fld_65_6 rfl) ?_
 refine e_q 20 rfl (wn_none rfl) (op_ld 0 sc_3 rfl rfl (cfgC_a6 _)) ?_
 refine e_q 22 rfl (wn_none rfl) (op_field fld_65_7 rfl) ?_
 refine e_q 23 rfl (wn_none rfl) (op_ld 0 sc_3 rfl rfl (cfgC_a7 _)) ?_
 refine e_q 25 rfl (wn_none rfl) (op_field fld_65_8 rfl) ?_
 refine e_q 26 rfl (wn_none rfl) (op_ld 0 sc_3 rfl rfl (cfgC_a8 _)) ?_
 refine e_q 28 rfl (wn_none rfl) (op_field fld_65_9 rfl) ?_
 refine e_q 29 rfl (wn_none rfl) (op_ld 0 sc_3 rfl rfl (cfgC_a9 _)) ?_
 refine e_q 31 rfl (wn_none rfl) (op_field fld_65_10 rfl) ?_
 refine e_q 32 rfl (wn_none rfl) (op_ld 0 sc_3 rfl rfl (cfgC_a10 _)) ?_
 refine e_q 34 rfl (wn_none rfl) (op_field fld_65_11 rfl) ?_
 refine e_q 35 rfl (wn_none rfl) (op_ld 0 sc_3 rfl rfl (cfgC_a11 _)) ?_
 refine Z8t ?_
 refine ei_i rfl rfl (wn_none rfl) (os_call cb_95 rfl (fun w s => In_calls (b := 32) _  s )) rfl ?_; rintro _ _ ⟨rfl, rfl⟩; refine ⟨[], rfl, ?_⟩
 refine Z26 ?_
 refine ei_i rfl rfl (wn_none rfl) (os_call cb_95 rfl (fun w s => In_calls _ _  s )) rfl ?_; rintro _ _ ⟨rfl, rfl⟩; refine ⟨[], rfl, ?_⟩
 refine Z24 ?_
 refine ei_i rfl rfl (wn_none rfl) (os_call cb_95 rfl (fun w s => In_calls (b := 256) _  s )) rfl ?_; rintro _ _ ⟨rfl, rfl⟩; refine ⟨[], rfl, ?_⟩
 refine Z5z ?_
 refine Za1 ?_
 refine et_1 (i := 18) (by kernel_rfl) ?_
 refine Za1 ?_
 refine et_1 (i := 21) (by kernel_rfl) ?_
 refine Za1 ?_
 refine et_1 (i := 24) (by kernel_rfl) ?_
 refine ei_i rfl rfl (wn_none rfl) (os_call cb_95 rfl (fun w s => In_calls (b := 16) _  s )) rfl ?_; rintro _ _ ⟨rfl, rfl⟩; refine ⟨[], rfl, ?_⟩
 refine et_1 (i := 27) (by kernel_rfl) ?_
 refine ei_i rfl rfl (wn_none rfl) (os_call cb_95 rfl (fun w s => In_calls (b := 256) _  s )) rfl ?_; rintro _ _ ⟨rfl, rfl⟩; refine ⟨[], rfl, ?_⟩
 refine et_1 (i := 30) (by kernel_rfl) ?_
 refine Za1 ?_
 refine et_1 (i := 33) (by kernel_rfl) ?_
 refine ei_i rfl rfl (wn_none rfl) (os_call cb_95 rfl (fun w s => In_calls (b := 1048576) _  s )) rfl ?_; rintro _ _ ⟨rfl, rfl⟩; refine ⟨[], rfl, ?_⟩
 refine et_1 (i := 36) (by kernel_rfl) ?_
 refine ei_i rfl rfl (wn_none rfl) (os_call cb_95 rfl (fun w s => In_calls (b := 1048576) _  s )) rfl ?_; rintro _ _ ⟨rfl, rfl⟩; refine ⟨[], rfl, ?_⟩
 refine et_1 (i := 37) (by kernel_rfl) ?_
 refine ei_i rfl rfl (wn_none rfl) (os_bslice (E := encBool) [_, _, _, _, _, _, _, _, _, _, _] (ys := [_, _, _, _, _, _, _, _, _, _, _]) sB_133 zv_4 rfl rfl rfl rfl (by decide)) rfl ?_; rintro _ _ ⟨ao1, rfl, rfl⟩; refine ⟨[_], rfl, ?_⟩
 refine e_q 38 rfl (wn_none rfl) (op_assign (v := .slice _ _ _) rfl) ?_
 refine Z16 ?_
 refine Z0 ?_
 refine Zm ?_
 refine oi (os_call cb_96 rfl (fun w s => Contains_calls _ _ _ _  s (rds_row 0 rfl rfl) (by first | omega | (simp; done) | (simp; omega)))) ?_; rintro _ _ ⟨rfl, rfl⟩
 refine Z3e ?_
 refine Zk ?_
 exact px_ret1 rfl (v := .bool _) rfl (fun _ s => ((s.del 1).del 0)) ⟨congrArg Value.bool (by rw [contains_all]; unfold goodC numsC; simp_all [List.all_cons]), rfl⟩
end Go.SL

set_option linter.unusedVariables false
set_option linter.unusedSimpArgs false
namespace Go.SL
open Go.Proofs

set_option maxRecDepth 100000 in
set_option maxHeartbeats 1000000 in
theorem RGood_calls {w0 w : World} {l : List HProp} (ao : Option Addr) (c : Nat) (xs : List Val) (n1 n2 n3 n4 n5 n6 n7 n8 n9 n10 n11 : Int) (hs : Sat w0 w (l)) (hr : Rds w0 l encVal ao xs) (hxl : xs.length ≤ 1000000) (hq : ∀ y ∈ xs, I64 y.stake ∧ y.key.length ≤ maxLen) :
  Calls Try.prog 89 #[.agg (cfgC ⟨⟨ao, xs.length, c⟩, n1, n2, n3, n4, n5, n6, n7, n8, n9, n10, n11⟩).toArray] w (Ret w0 fun v l' => v = .bool (goodC ⟨⟨ao, xs.length, c⟩, n1, n2, n3, n4, n5, n6, n7, n8, n9, n10, n11⟩ xs) ∧ l' = l) := by
 have hcl : (numsC ⟨⟨ao, xs.length, c⟩, n1, n2, n3, n4, n5, n6, n7, n8, n9, n10, n11⟩ xs.length).length = 12 := rfl
 have hnl : (numsL ⟨⟨ao, xs.length, c⟩, n1, n2, n3, n4, n5, n6, n7, n8, n9, n10, n11⟩ xs.length).length = 24 := rfl
 refine calls_enter Try.func89 rfl rfl rfl hs ?_
 refine Zj ?_; intro bx1
 refine Zb ?_
 refine Z0 ?_
 refine Z4m ?_
 refine oi (os_call cb_102 rfl (fun w s => Numbers_calls _ _ _ _ _ _ _ _ _ _ _ _ _ _  s (hr.cons _))) ?_; rintro _ _ ⟨no1, nc1, rfl, rfl⟩
 refine Zw ?_
 refine Z4c ?_
 refine Z3j ?_
 refine cd_loop2 (α := Nat) [(2, 2), (4, 4), (9, 31)] (fun x => [(4, .int .i64 ((2 * x : Nat) : Int))]) (fun _ => _) (fun x => x ≤ 12 ∧ ∀ j (h : j < (numsC ⟨⟨ao, xs.length, c⟩, n1, n2, n3, n4, n5, n6, n7, n8, n9, n10, n11⟩ xs.length).length), j < x → inR (numsC ⟨⟨ao, xs.length, c⟩, n1, n2, n3, n4, n5, n6, n7, n8, n9, n10, n11⟩ xs.length)[j] = true) (fun x => 12 - x) 0 ⟨Nat.zero_le _, fun j h h2 => absurd h2 (Nat.not_lt_zero _)⟩ ⟨rfl, trivial⟩ (fun _ s => s) ?_
 rintro i ⟨hi, hno⟩ f; (try dsimp only at hi hno ⊢)
 refine Zf ?_
 refine Zm ?_
 refine Z5k ?_
 refine Z3u ?_
 refine cd_cond rfl (fun hb1 => ?_) (fun hb1 => ?_)
 ·have hp1 := hb1
  (try simp only [bn] at hp1)
  refine Z3g ?_
  obtain ⟨na1, na2⟩ := nums_at ⟨⟨ao, xs.length, c⟩, n1, n2, n3, n4, n5, n6, n7, n8, n9, n10, n11⟩ xs.length i (by omega) (by omega) (by omega) (by omega)
  refine Z1u ?_
  refine Z5w ?_
  refine Ze ?_
  refine rg_q (wn_none rfl) (op_index (2 * i) sB_42 rfl rfl rfl (rds_row 0 rfl rfl) rfl (by omega)) rfl rfl ?_
  refine rg_q (wn_none rfl) (op_ldw sc_3 (rds_row 0 rfl rfl) rfl (by omega) rfl) rfl rfl ?_
  refine Z53 ?_
  refine Z4k ?_
  refine rg_split 20 rfl (fun hb2 => ?_) (fun hb2 => ?_)
  ·have hp2 := hb2
   (try simp only [bn] at hp2)
   have hin : inR (numsC ⟨⟨ao, xs.length, c⟩, n1, n2, n3, n4, n5, n6, n7, n8, n9, n10, n11⟩ xs.length)[i] = false := decide_eq_false (by omega)
   refine Z2j ?_
   refine Z2j ?_
   refine Z2j ?_
   refine Z2j ?_
   refine Z2j ?_
   refine rg_q (wn_none rfl) (op_pick_t (v := .bool _) rfl hb2 rfl) rfl rfl ?_
   refine Z1a ?_
   refine Z5e ?_
   refine Z0 ?_
   refine Zk ?_
   refine Z1z ?_
   exact px_ret1 rfl (v := .bool _) rfl (fun _ s => ((s.del 1).del 0)) ⟨congrArg Value.bool ((goodC_no (by omega) hin).symm), rfl⟩
  have hp2 := hb2
  (try simp only [bn] at hp2)
  refine rg_q (wn_some rfl rfl rfl hb2 rfl) (op_move (v := .slice _ _ _) rfl) rfl rfl ?_
  refine Za0 ?_
  refine rg_q (wn_some rfl rfl rfl hb2 rfl) (op_index (2 * i) sB_42 rfl rfl rfl (rds_row 0 rfl rfl) rfl (by omega)) rfl rfl ?_
  refine rg_q (wn_some rfl rfl rfl hb2 rfl) (op_ldw sc_3 (rds_row 0 rfl rfl) rfl (by omega) rfl) rfl rfl ?_
  refine rg_q (wn_some rfl rfl rfl hb2 rfl) (op_move (v := .slice _ _ _) rfl) rfl rfl ?_
  refine Za0 ?_
  refine rg_q (wn_some rfl rfl rfl hb2 rfl) (op_add rfl rfl (by omega) (by omega)) rfl rfl ?_
  refine rg_q (wn_some rfl rfl rfl hb2 rfl) (op_index (2 * i + 1) sB_42 rfl rfl (by omega) (rds_row 0 rfl rfl) rfl (by omega)) rfl rfl ?_
  refine rg_q (wn_some rfl rfl rfl hb2 rfl) (op_ldw sc_3 (rds_row 0 rfl rfl) rfl (by omega) rfl) rfl rfl ?_
  refine rg_q (wn_some rfl rfl rfl hb2 rfl) (op_gt rfl rfl) rfl rfl ?_
  refine rg_q (wn_none rfl) (op_pick_f (v := .bool _) rfl hb2 rfl) rfl rfl ?_
  refine Z1a ?_
  refine cd_cond rfl (fun hb3 => ?_) (fun hb3 => ?_)
  ·have hp3 := hb3
   (try simp only [bn] at hp3)
   have hin : inR (numsC ⟨⟨ao, xs.length, c⟩, n1, n2, n3, n4, n5, n6, n7, n8, n9, n10, n11⟩ xs.length)[i] = false := decide_eq_false (by omega)
   refine Z0 ?_
   refine Zk ?_
   refine Z1z ?_
   exact px_ret1 rfl (v := .bool _) rfl (fun _ s => ((s.del 1).del 0)) ⟨congrArg Value.bool ((goodC_no (by omega) hin).symm), rfl⟩
  have hp3 := hb3
  (try simp only [bn] at hp3)
  have hin : inR (numsC ⟨⟨ao, xs.length, c⟩, n1, n2, n3, n4, n5, n6, n7, n8, n9, n10, n11⟩ xs.length)[i] = true := decide_eq_true (by omega)
  refine cd_skip ?_
  refine Z6n ?_
  refine px_loop2 (i + 1) ⟨by omega, fun j h h2 => by rcases Nat.lt_succ_iff_lt_or_eq.1 h2 with h3 | h3; exact hno j h h3; subst h3; exact hin⟩ (by (try dsimp only); omega) ⟨congrArg (Value.int .i64) (by omega), trivial⟩ ?_ (fun _ s => s)
  exact Z2
 have hp1 := hb1
 (try simp only [bn] at hp1)
 refine Z2d ?_
 refine Z44 ?_
 refine oq (op_ld 1 sc_63 rfl rfl (cfgC_a0 _)) ?_
 refine oi (os_call cb_104 rfl (fun w s => RTotal_calls _ _ _  s ((hr.cons _).cons _) (by first | omega | (simp; done) | (simp; omega)) (by assumption))) ?_; rintro _ _ ⟨rfl, rfl⟩
 refine Z38 ?_
 refine Z3l ?_
 refine Z52 ?_
 refine Zq ?_
 refine Zb ?_
 refine Z0 ?_
 refine Z5 ?_
 refine Zk ?_
 exact px_ret1 rfl (v := .bool _) rfl (fun _ s => ((s.del 1).del 0)) ⟨congrArg Value.bool ((goodC_yes fun j hj => hno j hj (by omega)).symm), rfl⟩

set_option maxRecDepth 100000 in
set_option maxHeartbeats 1000000 in
theorem GBytes_calls {w0 w : World} {l : List HProp} (ao : Option Addr) (c : Nat) (xs : List Val) (n1 n2 n3 n4 n5 n6 n7 n8 n9 n10 n11 : Int) (hs : Sat w0 w (l)) (hr : Rds w0 l encVal ao xs) (hxl : xs.length ≤ 64) (hk : ∀ y ∈ xs, y.key.length ≤ 32) :
  Calls Try.prog 98 #[.agg (cfgC ⟨⟨ao, xs.length, c⟩, n1, n2, n3, n4, n5, n6, n7, n8, n9, n10, n11⟩).toArray] w (Ret w0 fun v l' => v = .string (B (bytesC ⟨⟨ao, xs.length, c⟩, n1, n2, n3, n4, n5, n6, n7, n8, n9, n10, n11⟩ xs)) ∧ l' = l) := by
 have h12 : (nums12 ⟨⟨ao, xs.length, c⟩, n1, n2, n3, n4, n5, n6, n7, n8, n9, n10, n11⟩ xs.length).length = 12 := rfl
 refine calls_enter Try.func98 rfl rfl rfl hs ?_
 refine Zj ?_; intro bx1
 refine Z45 ?_
 refine Z19 ?_
 refine Zw ?_
 refine Z4c ?_
 refine oq (op_field fld_65_1 rfl) ?_
 refine oq (op_ld 0 sc_3 rfl rfl (cfgC_a1 _)) ?_
 refine oq (op_field fld_65_2 rfl) ?_
 refine oq (op_ld 0 sc_3 rfl rfl (cfgC_a2 _)) ?_
 refine oq (op_field fld_65_3 rfl) ?_
 refine oq (op_ld 0 sc_3 rfl rfl (cfgC_a3 _)) ?_
 refine oq (op_field fld_65_4 rfl) ?_
 refine oq (op_ld 0 sc_3 rfl rfl (cfgC_a4 _)) ?_
 refine oq (op_field fld_65_5 rfl) ?_
 refine oq (op_ld 0 sc_3 rfl rfl (cfgC_a5 _)) ?_
 refine oq (op_field fld_65_6 rfl) ?_
 refine oq (op_ld 0 sc_3 rfl rfl (cfgC_a6 _)) ?_
 refine oq (op_field fld_65_7 rfl) ?_
 refine oq (op_ld 0 sc_3 rfl rfl (cfgC_a7 _)) ?_
 refine oq (op_field fld_65_8 rfl) ?_
 refine oq (op_ld 0 sc_3 rfl rfl (cfgC_a8 _)) ?_
 refine oq (op_field fld_65_9 rfl) ?_
 refine oq (op_ld 0 sc_3 rfl rfl (cfgC_a9 _)) ?_
 refine oq (op_field fld_65_10 rfl) ?_
 refine oq (op_ld 0 sc_3 rfl rfl (cfgC_a10 _)) ?_
 refine oq (op_field fld_65_11 rfl) ?_
 refine oq (op_ld 0 sc_3 rfl rfl (cfgC_a11 _)) ?_
 refine Z44 ?_
 refine Z7f ?_
 refine Z4l ?_
 refine oi (os_bslice (E := encI64) [_, _, _, _, _, _, _, _, _, _, _, _] (ys := (nums12 ⟨⟨ao, xs.length, c⟩, n1, n2, n3, n4, n5, n6, n7, n8, n9, n10, n11⟩ xs.length)) sB_42 zv_3 rfl rfl rfl rfl (by decide)) ?_; rintro _ _ ⟨ao1, rfl, rfl⟩
 refine Z5k ?_
 refine Z1l ?_
 refine cd_loop2 (α := Nat × Option Addr × Nat) [(3, 3), (5, 5), (35, 43)] (fun x => [(3, .slice x.2.1 (bytesA ((nums12 ⟨⟨ao, xs.length, c⟩, n1, n2, n3, n4, n5, n6, n7, n8, n9, n10, n11⟩ xs.length).take x.1)).length x.2.2), (35, .int .i64 (x.1 : Int))]) (fun x => Row 5 encU8 (.slice x.2.1 (bytesA ((nums12 ⟨⟨ao, xs.length, c⟩, n1, n2, n3, n4, n5, n6, n7, n8, n9, n10, n11⟩ xs.length).take x.1)).length x.2.2) (bytesA ((nums12 ⟨⟨ao, xs.length, c⟩, n1, n2, n3, n4, n5, n6, n7, n8, n9, n10, n11⟩ xs.length).take x.1)) :: Row 3 encI64 (.slice ao1 (nums12 ⟨⟨ao, xs.length, c⟩, n1, n2, n3, n4, n5, n6, n7, n8, n9, n10, n11⟩ xs.length).length 12) (nums12 ⟨⟨ao, xs.length, c⟩, n1, n2, n3, n4, n5, n6, n7, n8, n9, n10, n11⟩ xs.length) :: Blk bx1 (.cells (cfgC ⟨⟨ao, xs.length, c⟩, n1, n2, n3, n4, n5, n6, n7, n8, n9, n10, n11⟩).toArray 65 (0, 0)) :: l) (fun x => x.1 ≤ 12) (fun x => 12 - x.1) (0, none, 0) (Nat.zero_le _) ⟨rfl, rfl, trivial⟩ (fun _ s => Sat.rowNil s) ?_
 rintro ⟨i, vo, vc⟩ hi f; (try dsimp only at hi ⊢); have hbl := bytesA_length ((nums12 ⟨⟨ao, xs.length, c⟩, n1, n2, n3, n4, n5, n6, n7, n8, n9, n10, n11⟩ xs.length).take i); rw [List.length_take] at hbl
 refine Zx ?_
 refine cd_cond rfl (fun hb1 => ?_) (fun hb1 => ?_)
 ·have hp1 := hb1
  (try simp only [bn] at hp1)
  refine Z33 ?_
  refine oq (op_index _ sB_42 rfl rfl rfl (rds_row 1 rfl rfl) rfl (by omega)) ?_
  refine oq (op_ldw sc_3 (rds_row 1 rfl rfl) rfl (by omega) rfl) ?_
  refine Z8 ?_
  have hu4 := u64N_lt ((nums12 ⟨⟨ao, xs.length, c⟩, n1, n2, n3, n4, n5, n6, n7, n8, n9, n10, n11⟩ xs.length)[i])
  refine Z1b ?_
  refine Zm ?_
  refine Z4 ?_
  refine oq (op_conv64i Try.underlying142 (by rw [Try.underlying3]; rfl) rfl) ?_
  refine oi (os_call cb_112 rfl (fun w s => Put_calls (wd := 4) _ _ _ _  s (by omega) (by first | omega | (simp; done) | (simp; omega)))) ?_; rintro _ _ ⟨pa1, pc1, rfl, rfl⟩
  refine Zw ?_
  refine Z35 ?_
  have e1 := bytesA_succ (nums12 ⟨⟨ao, xs.length, c⟩, n1, n2, n3, n4, n5, n6, n7, n8, n9, n10, n11⟩ xs.length) i (by omega)
  refine px_loop2 (i + 1, pa1, pc1) (by dsimp only; omega) (by (try dsimp only); omega) ⟨congrArg (fun q => Value.slice pa1 (List.length q) pc1) e1.symm, congrArg (Value.int .i64) (by simp), trivial⟩ ?_ (fun _ s => (by rw [e1]; exact s))
  exact Z2
 have hp1 := hb1
 (try simp only [bn] at hp1)
 refine Z1e ?_
 refine Z15 ?_
 refine Z44 ?_
 refine oq (op_ld 2 sc_63 rfl rfl (cfgC_a0 _)) ?_
 refine Z4l ?_
 refine Z1l ?_
 obtain rfl : i = 12 := by omega
 have e0 : bytesA ((nums12 ⟨⟨ao, xs.length, c⟩, n1, n2, n3, n4, n5, n6, n7, n8, n9, n10, n11⟩ xs.length).take 12) = bytesA (nums12 ⟨⟨ao, xs.length, c⟩, n1, n2, n3, n4, n5, n6, n7, n8, n9, n10, n11⟩ xs.length) ++ bytesV (xs.take 0) := by rw [List.take_of_length_le (by omega)]; simp [bytesV]
 refine cd_loop2 (α := Nat × Option Addr × Nat) [(3, 3), (7, 7), (47, 64)] (fun x => [(3, .slice x.2.1 (bytesA (nums12 ⟨⟨ao, xs.length, c⟩, n1, n2, n3, n4, n5, n6, n7, n8, n9, n10, n11⟩ xs.length) ++ bytesV (xs.take x.1)).length x.2.2), (47, .int .i64 (x.1 : Int))]) (fun x => Row 5 encU8 (.slice x.2.1 (bytesA (nums12 ⟨⟨ao, xs.length, c⟩, n1, n2, n3, n4, n5, n6, n7, n8, n9, n10, n11⟩ xs.length) ++ bytesV (xs.take x.1)).length x.2.2) (bytesA (nums12 ⟨⟨ao, xs.length, c⟩, n1, n2, n3, n4, n5, n6, n7, n8, n9, n10, n11⟩ xs.length) ++ bytesV (xs.take x.1)) :: Blk bx1 (.cells (cfgC ⟨⟨ao, xs.length, c⟩, n1, n2, n3, n4, n5, n6, n7, n8, n9, n10, n11⟩).toArray 65 (0, 0)) :: l) (fun x => x.1 ≤ xs.length) (fun x => xs.length - x.1) (0, vo, vc) (Nat.zero_le _) ⟨congrArg (fun q => Value.slice vo (List.length q) vc) e0, rfl, trivial⟩ (fun _ s => by rw [← e0]; exact (s.del 1)) ?_
 rintro ⟨j, vo2, vc2⟩ hj f; (try dsimp only at hj ⊢); have hbl2 := bytesA_length (nums12 ⟨⟨ao, xs.length, c⟩, n1, n2, n3, n4, n5, n6, n7, n8, n9, n10, n11⟩ xs.length); have hbv := bytesV_length (l := xs.take j) fun y hy => hk y (List.mem_of_mem_take hy); rw [List.length_take] at hbv; have hbs : (bytesA (nums12 ⟨⟨ao, xs.length, c⟩, n1, n2, n3, n4, n5, n6, n7, n8, n9, n10, n11⟩ xs.length)).length + (bytesV (xs.take j)).length ≤ 3000 := by omega
 refine Zx ?_
 refine cd_cond rfl (fun hb2 => ?_) (fun hb2 => ?_)
 ·have hp2 := hb2
  (try simp only [bn] at hp2)
  refine Z33 ?_
  refine oq (op_index _ sB_63 rfl rfl rfl ((hr.cons _).cons _) rfl (by omega)) ?_
  refine oq (op_ldaw (L := valC _) ag_78 ((hr.cons _).cons _) rfl (by omega) rfl (valC_ta _)) ?_
  refine Z8v ?_; intro bx2
  refine Z8w ?_
  refine Z1 ?_
  have hu8 := u64N_lt xs[j].stake
  have hk1 := hk xs[j] (List.getElem_mem _)
  have hp8 : (putB (u64N xs[j].stake) (clamp8 8)).length = 8 := by rw [putB_length]; rfl
  have hp1 : (putB xs[j].key.length (clamp8 1)).length = 1 := by rw [putB_length]; rfl
  refine cd_pull1 ?_
  refine cd_drawt (M := [_]) mx [4, 9] 12 (by kernel_rfl) rfl rfl ?_
  dsimp only [List.take_succ_cons, List.take_zero, List.drop_succ_cons, List.drop_zero]
  refine Z5w ?_
  refine rg_q (wn_none rfl) (op_field fld_78_0 rfl) rfl rfl ?_
  refine Zdc ?_
  refine rg_i (wn_none rfl) (os_call cb_112 rfl (fun w s => Put_calls (wd := 8) _ _ _ _  s (by omega) (by first | omega | (simp; done) | (simp; omega)))) rfl rfl ?_; rintro _ _ ⟨pa2, pc2, rfl, rfl⟩; refine ⟨[_], rfl, ?_⟩
  refine Zam ?_
  refine Zd5 ?_
  refine rg_i (wn_none rfl) (os_call cb_112 rfl (fun w s => Put_calls (wd := 1) _ _ _ _  s (by omega) (by first | omega | (simp; done) | (simp; omega)))) rfl rfl ?_; rintro _ _ ⟨pa3, pc3, rfl, rfl⟩; refine ⟨[_], rfl, ?_⟩
  refine Zam ?_
  refine rg_tail1 ?_
  refine oi (os_appendS rfl sB_162 Try.underlying9 zv_5 rfl rfl rfl (by simp; omega) (by unfold maxLen; simp; omega)) ?_; rintro _ _ ⟨ao2, ac2, rfl, rfl⟩
  refine Zw ?_
  refine Z35 ?_
  have e2 := bytesV_succ xs j (by omega)
  have e3 : bytesA (nums12 ⟨⟨ao, xs.length, c⟩, n1, n2, n3, n4, n5, n6, n7, n8, n9, n10, n11⟩ xs.length) ++ bytesV (xs.take (j + 1)) = bytesA (nums12 ⟨⟨ao, xs.length, c⟩, n1, n2, n3, n4, n5, n6, n7, n8, n9, n10, n11⟩ xs.length) ++ bytesV (xs.take j) ++ putB (u64N xs[j].stake) (clamp8 8) ++ putB xs[j].key.length (clamp8 1) ++ xs[j].key := by rw [e2]; simp only [List.append_assoc]; rfl
  refine px_loop2 (j + 1, ao2, ac2) (by dsimp only; omega) (by (try dsimp only); omega) ⟨congrArg (fun q => Value.slice ao2 (List.length q) ac2) e3.symm, congrArg (Value.int .i64) (by simp), trivial⟩ ?_ (fun _ s => (by rw [e3]; exact (s.del 1)))
  exact Z2
 have hp2 := hb2
 (try simp only [bn] at hp2)
 refine Z2d ?_
 refine Zm ?_
 refine oq (op_b2s sB_162 Try.underlying5 Try.underlying9 rfl (rds_row 0 rfl rfl) rfl) ?_
 refine Z45 ?_
 refine Z1s ?_
 obtain rfl : j = xs.length := by omega
 exact px_ret1 rfl (v := .string _) rfl (fun _ s => ((s.del 1).del 0)) ⟨by unfold bytesC; rw [List.take_length], rfl⟩
end Go.SL

set_option linter.unusedVariables false
set_option linter.unusedSimpArgs false
namespace Go.SL
open Go.Proofs

set_option maxRecDepth 100000 in
set_option maxHeartbeats 1000000 in
theorem Rot_calls {w0 w : World} {l : List HProp} (X : UInt32) (j k : Int) (hs : Sat w0 w (l)) (hj : j = -k) (h0 : 0 < k) (h1 : k < 32) :
  Calls Try.prog 121 #[.int .u32 (X.toNat : Int), .int .i64 j] w (Ret w0 fun v l' => v = .int .u32 ((rotr X k.toNat).toNat : Int) ∧ l' = l) := by
 have hu : u64N j = 18446744073709551616 - k.toNat := by unfold u64N; omega
 refine calls_enter Try.func121 rfl rfl rfl hs ?_
 refine Z0 ?_
 refine Z1r ?_
 refine oq (op_conv64i Try.underlying74 (by rw [Try.underlying3]; rfl) rfl) ?_
 refine oq (op_and31 (m := 32 - k.toNat) rfl (by omega) rfl (by omega)) ?_
 refine Z1r ?_
 refine Z4 ?_
 refine oq (op_shl32 (m := 32 - k.toNat) _ rfl rfl (by omega)) ?_
 refine Z2u ?_
 refine oq (op_sub32m (k := k.toNat) rfl rfl (by omega)) ?_
 refine oq (op_shr32 (m := k.toNat) _ rfl rfl (by omega)) ?_
 refine oq (op_or32 _ _ rfl rfl) ?_
 exact Zbf

set_option maxRecDepth 100000 in
set_option maxHeartbeats 1000000 in
theorem turn_calls {w0 w : World} {l : List HProp} (X : UInt32) (k : Int) (hs : Sat w0 w (l)) (h0 : 0 < k) (h1 : k < 32) :
  Calls Try.prog 120 #[.int .u32 (X.toNat : Int), .int .i64 k] w (Ret w0 fun v l' => v = .int .u32 ((rotr X k.toNat).toNat : Int) ∧ l' = l) := by
 refine calls_enter Try.func120 rfl rfl rfl hs ?_
 refine Z0 ?_
 refine Z1r ?_
 refine Zcz ?_
 refine oi (os_call cb_121 rfl (fun w s => Rot_calls _ _ _  s (show _ = -k by rw [wrap_i64 (by omega) (by omega)]; omega) h0 h1)) ?_; rintro _ _ ⟨rfl, rfl⟩
 exact Zbf

set_option maxRecDepth 100000 in
set_option maxHeartbeats 1000000 in
theorem first_calls {w0 w : World} {l : List HProp}  (hs : Sat w0 w (l))  :
  Calls Try.prog 109 #[] w (Ret w0 fun v l' => v = .agg (w8C H8).toArray ∧ l' = l) := by
 refine calls_enter Try.func109 rfl rfl rfl hs ?_
 refine Z0 ?_
 refine Zb0 ?_; intro bx1
 refine Z19 ?_
 refine oq (op_builda (L := wC H0) (vs := [(0, .int .u32 1779033703), (1, .int .u32 3144134277), (2, .int .u32 1013904242), (3, .int .u32 2773480762), (4, .int .u32 1359893119), (5, .int .u32 2600822924), (6, .int .u32 528734635), (7, .int .u32 1541459225)]) ba_164 rfl (by kernel_rfl)) ?_
 refine oN (os_storew (wC _) ag_164 rfl rfl (by rw [wC_len]; rfl) (wC_one _) (by simp [wC_len, w8C_len]) (Free.zero _)) ?_; rintro _ _ ⟨rfl, rfl⟩
 refine Z1s ?_
 exact px_rv1 rfl (rv_cella 0 ag_164 rfl rfl (List.take_of_length_le (by first | (simp [wC_len, H0]; done) | (simp [wC_len]; omega))) (by first | (simp [wC_len, H0]; done) | (simp [wC_len]; omega))) (fun _ s => (s.del 0)) ⟨rfl, rfl⟩

set_option maxRecDepth 100000 in
theorem keys_calls {w0 w : World} {l : List HProp}  (hs : Sat w0 w (l))  :
  Calls Try.prog 119 #[] w (Ret w0 fun v l' => v = .agg (wC K64).toArray ∧ l' = l) := by
 refine calls_enter Try.func119 rfl rfl rfl hs ?_
 refine Z0 ?_
 refine Z8y ?_; intro bx1
 refine Z19 ?_
 refine oq (op_builda (L := wC K64) (vs := [(0, .int .u32 1116352408), (1, .int .u32 1899447441), (2, .int .u32 3049323471), (3, .int .u32 3921009573), (4, .int .u32 961987163), (5, .int .u32 1508970993), (6, .int .u32 2453635748), (7, .int .u32 2870763221), (8, .int .u32 3624381080), (9, .int .u32 310598401), (10, .int .u32 607225278), (11, .int .u32 1426881987), (12, .int .u32 1925078388), (13, .int .u32 2162078206), (14, .int .u32 2614888103), (15, .int .u32 3248222580), (16, .int .u32 3835390401), (17, .int .u32 4022224774), (18, .int .u32 264347078), (19, .int .u32 604807628), (20, .int .u32 770255983), (21, .int .u32 1249150122), (22, .int .u32 1555081692), (23, .int .u32 1996064986), (24, .int .u32 2554220882), (25, .int .u32 2821834349), (26, .int .u32 2952996808), (27, .int .u32 3210313671), (28, .int .u32 3336571891), (29, .int .u32 3584528711), (30, .int .u32 113926993), (31, .int .u32 338241895), (32, .int .u32 666307205), (33, .int .u32 773529912), (34, .int .u32 1294757372), (35, .int .u32 1396182291), (36, .int .u32 1695183700), (37, .int .u32 1986661051), (38, .int .u32 2177026350), (39, .int .u32 2456956037), (40, .int .u32 2730485921), (41, .int .u32 2820302411), (42, .int .u32 3259730800), (43, .int .u32 3345764771), (44, .int .u32 3516065817), (45, .int .u32 3600352804), (46, .int .u32 4094571909), (47, .int .u32 275423344), (48, .int .u32 430227734), (49, .int .u32 506948616), (50, .int .u32 659060556), (51, .int .u32 883997877), (52, .int .u32 958139571), (53, .int .u32 1322822218), (54, .int .u32 1537002063), (55, .int .u32 1747873779), (56, .int .u32 1955562222), (57, .int .u32 2024104815), (58, .int .u32 2227730452), (59, .int .u32 2361852424), (60, .int .u32 2428436474), (61, .int .u32 2756734187), (62, .int .u32 3204031479), (63, .int .u32 3329325298)]) ba_168 rfl (by kernel_rfl)) ?_
 refine oN (os_storew (wC _) ag_168 rfl rfl (by rw [wC_len]; rfl) (wC_one _) (by simp [wC_len, w8C_len]) (Free.zero _)) ?_; rintro _ _ ⟨rfl, rfl⟩
 refine Z1s ?_
 exact px_rv1 rfl (rv_cella 0 ag_168 rfl rfl (List.take_of_length_le (by first | (simp [wC_len, K64_len]; done) | (simp [wC_len]; omega))) (by first | (simp [wC_len, K64_len]; done) | (simp [wC_len]; omega))) (fun _ s => (s.del 0)) ⟨rfl, rfl⟩

set_option maxRecDepth 100000 in
set_option maxHeartbeats 1000000 in
theorem lay_calls {w0 w : World} {l : List HProp} (bo : Option Addr) (bc : Nat) (bs : List UInt8) (hs : Sat w0 w (l)) (hr : Rds w0 l encU8 bo bs) (hb : bs.length = 64) :
  Calls Try.prog 118 #[.slice bo bs.length bc] w (Ret w0 fun v l' => v = .agg (wC (layM bs)).toArray ∧ l' = l) := by
 refine calls_enter Try.func118 rfl rfl rfl hs ?_
 refine Z0 ?_
 refine Z8y ?_; intro bx1
 refine Z19 ?_
 refine Z8y ?_; intro bx2
 refine Z1 ?_
 refine Zf ?_
 refine Z48 ?_
 refine cd_loop2 (α := Nat) [(4, 4), (8, 46)] (fun x => [(8, .int .i64 (x : Int))]) (fun x => Blk bx2 (.cells (wC (fillA (w16 bs x))).toArray 168 (0, 0)) :: Blk bx1 (.cells (wC (List.replicate 64 0)).toArray 168 (0, 0)) :: l) (fun x => x ≤ 16) (fun x => 16 - x) 0 (Nat.zero_le _) ⟨rfl, trivial⟩ (fun _ s => s) ?_
 rintro i hi f; (try dsimp only at hi ⊢)
 refine Zx ?_
 refine cd_cond rfl (fun hb1 => ?_) (fun hb1 => ?_)
 ·have hp1 := hb1
  (try simp only [bn] at hp1)
  refine Z2t ?_
  refine Z8 ?_
  refine cd_drawt (M := []) mx [] 35 (by kernel_rfl) rfl rfl ?_
  dsimp only [List.take_succ_cons, List.take_zero, List.drop_succ_cons, List.drop_zero]
  refine Ze ?_
  refine Z5w ?_
  refine Ze ?_
  refine Z8z ?_
  refine rg_q (wn_none rfl) (op_index (4 * i) sB_162 rfl rfl (by omega) ((hr.cons _).cons _) rfl (by omega)) rfl rfl ?_
  refine Za2 ?_
  refine Z90 ?_
  refine rg_q (wn_none rfl) (op_shl32 (m := 24) _ rfl rfl (by decide)) rfl rfl ?_
  refine Z5w ?_
  refine Ze ?_
  refine Z8z ?_
  refine Z6y ?_
  refine rg_q (wn_none rfl) (op_index (4 * i + 1) sB_162 rfl rfl (by omega) ((hr.cons _).cons _) rfl (by omega)) rfl rfl ?_
  refine Za2 ?_
  refine Z90 ?_
  refine rg_q (wn_none rfl) (op_shl32 (m := 16) _ rfl rfl (by decide)) rfl rfl ?_
  refine rg_q (wn_none rfl) (op_or32 _ _ rfl rfl) rfl rfl ?_
  refine Z5w ?_
  refine Ze ?_
  refine Z8z ?_
  refine Z6y ?_
  refine rg_q (wn_none rfl) (op_index (4 * i + 2) sB_162 rfl rfl (by omega) ((hr.cons _).cons _) rfl (by omega)) rfl rfl ?_
  refine Za2 ?_
  refine Z90 ?_
  refine rg_q (wn_none rfl) (op_shl32 (m := 8) _ rfl rfl (by decide)) rfl rfl ?_
  refine rg_q (wn_none rfl) (op_or32 _ _ rfl rfl) rfl rfl ?_
  refine Z5w ?_
  refine Ze ?_
  refine Z8z ?_
  refine Z6y ?_
  refine rg_q (wn_none rfl) (op_index (4 * i + 3) sB_162 rfl rfl (by omega) ((hr.cons _).cons _) rfl (by omega)) rfl rfl ?_
  refine Za2 ?_
  refine Z90 ?_
  refine rg_q (wn_none rfl) (op_or32 _ _ rfl rfl) rfl rfl ?_
  refine rg_q (wn_none rfl) (op_aidx0 _ a1_168 rfl rfl rfl (by omega)) rfl rfl ?_
  refine rg_tail0 ?_
  refine oN (os_store (v := .int _ _) sc_163 rfl rfl rfl (Nat.ble_eq_true_of_le (show i + 1 ≤ _ by rw [List.size_toArray, wC_len, fillA_len (by rw [w16_len]; omega)]; omega)) (Free.zero _) (fillA_st (by rw [w16_len]) (by rw [w16_len]; omega) _)) ?_; rintro _ _ ⟨rfl, rfl⟩
  refine Z35 ?_
  have e1 : w16 bs (i + 1) = w16 bs i ++ [shl32 (UInt32.ofNat (bs[4 * i]'(by omega)).toNat) 24 ||| shl32 (UInt32.ofNat (bs[4 * i + 1]'(by omega)).toNat) 16 ||| shl32 (UInt32.ofNat (bs[4 * i + 2]'(by omega)).toNat) 8 ||| UInt32.ofNat (bs[4 * i + 3]'(by omega)).toNat] := by
   rw [w16_succ]
   unfold word byteW
   simp only [List.getD_eq_getElem?_getD, List.getElem?_eq_getElem (show 4 * i < bs.length by omega), List.getElem?_eq_getElem (show 4 * i + 1 < bs.length by omega), List.getElem?_eq_getElem (show 4 * i + 2 < bs.length by omega), List.getElem?_eq_getElem (show 4 * i + 3 < bs.length by omega), Option.getD_some]
  exact Zu
 have hp1 := hb1
 (try simp only [bn] at hp1)
 refine Z1e ?_
 refine Z15 ?_
 refine Z3j ?_
 obtain rfl : i = 16 := by omega
 refine cd_loop2 (α := Nat) [(5, 7), (47, 87)] (fun x => [(5, .int .i64 ((x + 16 : Nat) : Int))]) (fun x => Blk bx2 (.cells (wC (fillA (sch x (w16 bs 16)))).toArray 168 (0, 0)) :: Blk bx1 (.cells (wC (List.replicate 64 0)).toArray 168 (0, 0)) :: l) (fun x => x ≤ 48) (fun x => 48 - x) 0 (Nat.zero_le _) ⟨rfl, trivial⟩ (fun _ s => s) ?_
 rintro k hk f; (try dsimp only at hk ⊢); have hml : (sch k (w16 bs 16)).length = k + 16 := by rw [sch_len, w16_len]
 have hfl : (fillA (sch k (w16 bs 16))).length = 64 := fillA_len (by omega)
 refine Zf ?_
 refine Z3u ?_
 refine cd_cond rfl (fun hb2 => ?_) (fun hb2 => ?_)
 ·have hp2 := hb2
  (try simp only [bn] at hp2)
  have hk48 : k < 48 := by omega
  refine Z3g ?_
  refine Z1u ?_
  refine Ze ?_
  refine Z6w ?_
  refine rg_q (wn_none rfl) (op_aidx0 (k + 1) a1_168 rfl rfl (by omega) (by omega)) rfl rfl ?_
  refine Za3 ?_
  refine Ze ?_
  refine Z6w ?_
  refine rg_q (wn_none rfl) (op_aidx0 (k + 14) a1_168 rfl rfl (by omega) (by omega)) rfl rfl ?_
  refine Za3 ?_
  refine Z2w ?_
  refine Z3q ?_
  refine cd_drawe (M := [_]) mx [4, 6, 8, 17, 20, 22, 29] ?_
  refine Z6h ?_
  refine Z6t ?_
  refine e_q 2 rfl (wn_none rfl) (op_sub rfl rfl (by omega) (by omega)) ?_
  refine e_q 3 rfl (wn_none rfl) (op_aidx0 k a1_168 rfl rfl (by omega) (by omega)) ?_
  refine Z8x ?_
  refine e_q 7 rfl (wn_none rfl) (op_move (v := .int _ _) rfl) ?_
  refine e_q 10 rfl (wn_none rfl) (op_move (v := .int _ _) rfl) ?_
  refine e_q 11 rfl (wn_none rfl) (op_shr32 (m := 3) _ rfl rfl (by decide)) ?_
  refine e_q 14 rfl (wn_none rfl) (op_move (v := .int _ _) rfl) ?_
  refine e_q 15 rfl (wn_none rfl) (op_sub rfl rfl (by omega) (by omega)) ?_
  refine e_q 16 rfl (wn_none rfl) (op_aidx0 (k + 9) a1_168 rfl rfl (by omega) (by omega)) ?_
  refine e_q 19 rfl (wn_none rfl) (op_move (v := .int _ _) rfl) ?_
  refine e_q 21 rfl (wn_none rfl) (op_move (v := .int _ _) rfl) ?_
  refine e_q 24 rfl (wn_none rfl) (op_move (v := .int _ _) rfl) ?_
  refine e_q 25 rfl (wn_none rfl) (op_shr32 (m := 10) _ rfl rfl (by decide)) ?_
  refine et_3 (i1 := 4) (i2 := 6) (i3 := 17) (by kernel_rfl) ?_ ?_ ?_
  ·
   refine Zo ?_
   refine et_2 (i1 := 6) (i2 := 17) (by kernel_rfl) ?_ ?_
   ·
    refine Z91 ?_
    refine et_2 (i1 := 8) (i2 := 17) (by kernel_rfl) ?_ ?_
    ·
     refine Z4v ?_
     refine Z5n ?_
     refine et_2 (i1 := 17) (i2 := 20) (by kernel_rfl) ?_ ?_
     ·
      refine Zo ?_
      refine Z4d ?_
      have e1 : sch (k + 1) (w16 bs 16) = sch k (w16 bs 16) ++ [next16 (sch k (w16 bs 16))] := rfl
      unfold next16 at e1
      rw [hml, show k + 16 - 16 = k by omega, show k + 16 - 15 = k + 1 by omega, show k + 16 - 7 = k + 9 by omega, show k + 16 - 2 = k + 14 by omega] at e1
      exact Zz
     refine Z62 ?_
     refine et_2 (i1 := 17) (i2 := 22) (by kernel_rfl) ?_ ?_
     ·
      refine Zo ?_
      refine Z2h ?_
      refine Z5q ?_
      have e1 : sch (k + 1) (w16 bs 16) = sch k (w16 bs 16) ++ [next16 (sch k (w16 bs 16))] := rfl
      unfold next16 at e1
      rw [hml, show k + 16 - 16 = k by omega, show k + 16 - 15 = k + 1 by omega, show k + 16 - 7 = k + 9 by omega, show k + 16 - 2 = k + 14 by omega] at e1
      exact Zz
     refine Z58 ?_
     refine Z2i ?_
     refine Z99 ?_
     refine Z2e ?_
     refine Z4q ?_
     have e1 : sch (k + 1) (w16 bs 16) = sch k (w16 bs 16) ++ [next16 (sch k (w16 bs 16))] := rfl
     unfold next16 at e1
     rw [hml, show k + 16 - 16 = k by omega, show k + 16 - 15 = k + 1 by omega, show k + 16 - 7 = k + 9 by omega, show k + 16 - 2 = k + 14 by omega] at e1
     exact Zz
    refine Zo ?_
    refine Zy ?_
    refine Z4v ?_
    refine Z5n ?_
    refine Z4d ?_
    have e1 : sch (k + 1) (w16 bs 16) = sch k (w16 bs 16) ++ [next16 (sch k (w16 bs 16))] := rfl
    unfold next16 at e1
    rw [hml, show k + 16 - 16 = k by omega, show k + 16 - 15 = k + 1 by omega, show k + 16 - 7 = k + 9 by omega, show k + 16 - 2 = k + 14 by omega] at e1
    exact Zz
   refine Zo ?_
   refine Z14 ?_
   refine Z91 ?_
   refine Zy ?_
   refine Z4v ?_
   refine Z5n ?_
   refine Z4d ?_
   have e1 : sch (k + 1) (w16 bs 16) = sch k (w16 bs 16) ++ [next16 (sch k (w16 bs 16))] := rfl
   unfold next16 at e1
   rw [hml, show k + 16 - 16 = k by omega, show k + 16 - 15 = k + 1 by omega, show k + 16 - 7 = k + 9 by omega, show k + 16 - 2 = k + 14 by omega] at e1
   exact Zz
  ·
   refine Z91 ?_
   refine et_3 (i1 := 4) (i2 := 8) (i3 := 17) (by kernel_rfl) ?_ ?_ ?_
   ·
    refine Zo ?_
    refine et_2 (i1 := 8) (i2 := 17) (by kernel_rfl) ?_ ?_
    ·
     refine Z4v ?_
     refine Z5n ?_
     refine et_2 (i1 := 17) (i2 := 20) (by kernel_rfl) ?_ ?_
     ·
      refine Zo ?_
      refine Z4d ?_
      have e1 : sch (k + 1) (w16 bs 16) = sch k (w16 bs 16) ++ [next16 (sch k (w16 bs 16))] := rfl
      unfold next16 at e1
      rw [hml, show k + 16 - 16 = k by omega, show k + 16 - 15 = k + 1 by omega, show k + 16 - 7 = k + 9 by omega, show k + 16 - 2 = k + 14 by omega] at e1
      exact Zz
     refine Z62 ?_
     refine et_2 (i1 := 17) (i2 := 22) (by kernel_rfl) ?_ ?_
     ·
      refine Zo ?_
      refine Z2h ?_
      refine Z5q ?_
      have e1 : sch (k + 1) (w16 bs 16) = sch k (w16 bs 16) ++ [next16 (sch k (w16 bs 16))] := rfl
      unfold next16 at e1
      rw [hml, show k + 16 - 16 = k by omega, show k + 16 - 15 = k + 1 by omega, show k + 16 - 7 = k + 9 by omega, show k + 16 - 2 = k + 14 by omega] at e1
      exact Zz
     refine Z58 ?_
     refine Z2i ?_
     refine Z99 ?_
     refine Z2e ?_
     refine Z4q ?_
     have e1 : sch (k + 1) (w16 bs 16) = sch k (w16 bs 16) ++ [next16 (sch k (w16 bs 16))] := rfl
     unfold next16 at e1
     rw [hml, show k + 16 - 16 = k by omega, show k + 16 - 15 = k + 1 by omega, show k + 16 - 7 = k + 9 by omega, show k + 16 - 2 = k + 14 by omega] at e1
     exact Zz
    refine Zo ?_
    refine Zy ?_
    refine Z4v ?_
    refine Z5n ?_
    refine Z4d ?_
    have e1 : sch (k + 1) (w16 bs 16) = sch k (w16 bs 16) ++ [next16 (sch k (w16 bs 16))] := rfl
    unfold next16 at e1
    rw [hml, show k + 16 - 16 = k by omega, show k + 16 - 15 = k + 1 by omega, show k + 16 - 7 = k + 9 by omega, show k + 16 - 2 = k + 14 by omega] at e1
    exact Zz
   ·
    refine Z4v ?_
    refine et_3 (i1 := 4) (i2 := 17) (i3 := 20) (by kernel_rfl) ?_ ?_ ?_
    ·
     refine Z3c ?_
     refine et_2 (i1 := 17) (i2 := 20) (by kernel_rfl) ?_ ?_
     ·
      refine Zo ?_
      refine Z4d ?_
      have e1 : sch (k + 1) (w16 bs 16) = sch k (w16 bs 16) ++ [next16 (sch k (w16 bs 16))] := rfl
      unfold next16 at e1
      rw [hml, show k + 16 - 16 = k by omega, show k + 16 - 15 = k + 1 by omega, show k + 16 - 7 = k + 9 by omega, show k + 16 - 2 = k + 14 by omega] at e1
      exact Zz
     refine Z62 ?_
     refine et_2 (i1 := 17) (i2 := 22) (by kernel_rfl) ?_ ?_
     ·
      refine Zo ?_
      refine Z2h ?_
      refine Z5q ?_
      have e1 : sch (k + 1) (w16 bs 16) = sch k (w16 bs 16) ++ [next16 (sch k (w16 bs 16))] := rfl
      unfold next16 at e1
      rw [hml, show k + 16 - 16 = k by omega, show k + 16 - 15 = k + 1 by omega, show k + 16 - 7 = k + 9 by omega, show k + 16 - 2 = k + 14 by omega] at e1
      exact Zz
     refine Z58 ?_
     refine Z2i ?_
     refine Z99 ?_
     refine Z2e ?_
     refine Z4q ?_
     have e1 : sch (k + 1) (w16 bs 16) = sch k (w16 bs 16) ++ [next16 (sch k (w16 bs 16))] := rfl
     unfold next16 at e1
     rw [hml, show k + 16 - 16 = k by omega, show k + 16 - 15 = k + 1 by omega, show k + 16 - 7 = k + 9 by omega, show k + 16 - 2 = k + 14 by omega] at e1
     exact Zz
    ·
     refine Zo ?_
     refine Z7g ?_ ?_
     ·
      refine Z3c ?_
      refine Z4d ?_
      have e1 : sch (k + 1) (w16 bs 16) = sch k (w16 bs 16) ++ [next16 (sch k (w16 bs 16))] := rfl
      unfold next16 at e1
      rw [hml, show k + 16 - 16 = k by omega, show k + 16 - 15 = k + 1 by omega, show k + 16 - 7 = k + 9 by omega, show k + 16 - 2 = k + 14 by omega] at e1
      exact Zz
     refine Z62 ?_
     refine Z63 ?_ ?_
     ·
      refine Z3c ?_
      refine Z2h ?_
      refine Z5q ?_
      have e1 : sch (k + 1) (w16 bs 16) = sch k (w16 bs 16) ++ [next16 (sch k (w16 bs 16))] := rfl
      unfold next16 at e1
      rw [hml, show k + 16 - 16 = k by omega, show k + 16 - 15 = k + 1 by omega, show k + 16 - 7 = k + 9 by omega, show k + 16 - 2 = k + 14 by omega] at e1
      exact Zz
     refine Z58 ?_
     refine Z2i ?_
     refine Z2g ?_
     refine Z3c ?_
     refine Z2e ?_
     refine Z4q ?_
     have e1 : sch (k + 1) (w16 bs 16) = sch k (w16 bs 16) ++ [next16 (sch k (w16 bs 16))] := rfl
     unfold next16 at e1
     rw [hml, show k + 16 - 16 = k by omega, show k + 16 - 15 = k + 1 by omega, show k + 16 - 7 = k + 9 by omega, show k + 16 - 2 = k + 14 by omega] at e1
     exact Zz
    refine Z62 ?_
    refine et_3 (i1 := 4) (i2 := 17) (i3 := 22) (by kernel_rfl) ?_ ?_ ?_
    ·
     refine Z3c ?_
     refine et_2 (i1 := 17) (i2 := 22) (by kernel_rfl) ?_ ?_
     ·
      refine Zo ?_
      refine Z2h ?_
      refine Z5q ?_
      have e1 : sch (k + 1) (w16 bs 16) = sch k (w16 bs 16) ++ [next16 (sch k (w16 bs 16))] := rfl
      unfold next16 at e1
      rw [hml, show k + 16 - 16 = k by omega, show k + 16 - 15 = k + 1 by omega, show k + 16 - 7 = k + 9 by omega, show k + 16 - 2 = k + 14 by omega] at e1
      exact Zz
     refine Z58 ?_
     refine Z2i ?_
     refine Z99 ?_
     refine Z2e ?_
     refine Z4q ?_
     have e1 : sch (k + 1) (w16 bs 16) = sch k (w16 bs 16) ++ [next16 (sch k (w16 bs 16))] := rfl
     unfold next16 at e1
     rw [hml, show k + 16 - 16 = k by omega, show k + 16 - 15 = k + 1 by omega, show k + 16 - 7 = k + 9 by omega, show k + 16 - 2 = k + 14 by omega] at e1
     exact Zz
    ·
     refine Zo ?_
     refine Z63 ?_ ?_
     ·
      refine Z3c ?_
      refine Z2h ?_
      refine Z5q ?_
      have e1 : sch (k + 1) (w16 bs 16) = sch k (w16 bs 16) ++ [next16 (sch k (w16 bs 16))] := rfl
      unfold next16 at e1
      rw [hml, show k + 16 - 16 = k by omega, show k + 16 - 15 = k + 1 by omega, show k + 16 - 7 = k + 9 by omega, show k + 16 - 2 = k + 14 by omega] at e1
      exact Zz
     refine Z58 ?_
     refine Z2i ?_
     refine Z2g ?_
     refine Z3c ?_
     refine Z2e ?_
     refine Z4q ?_
     have e1 : sch (k + 1) (w16 bs 16) = sch k (w16 bs 16) ++ [next16 (sch k (w16 bs 16))] := rfl
     unfold next16 at e1
     rw [hml, show k + 16 - 16 = k by omega, show k + 16 - 15 = k + 1 by omega, show k + 16 - 7 = k + 9 by omega, show k + 16 - 2 = k + 14 by omega] at e1
     exact Zz
    refine Z58 ?_
    refine Z2i ?_
    refine et_2 (i1 := 4) (i2 := 17) (by kernel_rfl) ?_ ?_
    ·
     refine Z3c ?_
     refine Z99 ?_
     refine Z2e ?_
     refine Z4q ?_
     have e1 : sch (k + 1) (w16 bs 16) = sch k (w16 bs 16) ++ [next16 (sch k (w16 bs 16))] := rfl
     unfold next16 at e1
     rw [hml, show k + 16 - 16 = k by omega, show k + 16 - 15 = k + 1 by omega, show k + 16 - 7 = k + 9 by omega, show k + 16 - 2 = k + 14 by omega] at e1
     exact Zz
    refine Zo ?_
    refine Z2g ?_
    refine Z3c ?_
    refine Z2e ?_
    refine Z4q ?_
    have e1 : sch (k + 1) (w16 bs 16) = sch k (w16 bs 16) ++ [next16 (sch k (w16 bs 16))] := rfl
    unfold next16 at e1
    rw [hml, show k + 16 - 16 = k by omega, show k + 16 - 15 = k + 1 by omega, show k + 16 - 7 = k + 9 by omega, show k + 16 - 2 = k + 14 by omega] at e1
    exact Zz
   refine Zo ?_
   refine et_2 (i1 := 4) (i2 := 8) (by kernel_rfl) ?_ ?_
   ·
    refine Zo ?_
    refine Zy ?_
    refine Z4v ?_
    refine Z5n ?_
    refine Z4d ?_
    have e1 : sch (k + 1) (w16 bs 16) = sch k (w16 bs 16) ++ [next16 (sch k (w16 bs 16))] := rfl
    unfold next16 at e1
    rw [hml, show k + 16 - 16 = k by omega, show k + 16 - 15 = k + 1 by omega, show k + 16 - 7 = k + 9 by omega, show k + 16 - 2 = k + 14 by omega] at e1
    exact Zz
   refine Z4v ?_
   refine Z7g ?_ ?_
   ·
    refine Z3c ?_
    refine Z4d ?_
    have e1 : sch (k + 1) (w16 bs 16) = sch k (w16 bs 16) ++ [next16 (sch k (w16 bs 16))] := rfl
    unfold next16 at e1
    rw [hml, show k + 16 - 16 = k by omega, show k + 16 - 15 = k + 1 by omega, show k + 16 - 7 = k + 9 by omega, show k + 16 - 2 = k + 14 by omega] at e1
    exact Zz
   refine Z62 ?_
   refine Z63 ?_ ?_
   ·
    refine Z3c ?_
    refine Z2h ?_
    refine Z5q ?_
    have e1 : sch (k + 1) (w16 bs 16) = sch k (w16 bs 16) ++ [next16 (sch k (w16 bs 16))] := rfl
    unfold next16 at e1
    rw [hml, show k + 16 - 16 = k by omega, show k + 16 - 15 = k + 1 by omega, show k + 16 - 7 = k + 9 by omega, show k + 16 - 2 = k + 14 by omega] at e1
    exact Zz
   refine Z58 ?_
   refine Z2i ?_
   refine Z2g ?_
   refine Z3c ?_
   refine Z2e ?_
   refine Z4q ?_
   have e1 : sch (k + 1) (w16 bs 16) = sch k (w16 bs 16) ++ [next16 (sch k (w16 bs 16))] := rfl
   unfold next16 at e1
   rw [hml, show k + 16 - 16 = k by omega, show k + 16 - 15 = k + 1 by omega, show k + 16 - 7 = k + 9 by omega, show k + 16 - 2 = k + 14 by omega] at e1
   exact Zz
  refine Zo ?_
  refine et_2 (i1 := 4) (i2 := 6) (by kernel_rfl) ?_ ?_
  ·
   refine Zo ?_
   refine Z14 ?_
   refine Z91 ?_
   refine Zy ?_
   refine Z4v ?_
   refine Z5n ?_
   refine Z4d ?_
   have e1 : sch (k + 1) (w16 bs 16) = sch k (w16 bs 16) ++ [next16 (sch k (w16 bs 16))] := rfl
   unfold next16 at e1
   rw [hml, show k + 16 - 16 = k by omega, show k + 16 - 15 = k + 1 by omega, show k + 16 - 7 = k + 9 by omega, show k + 16 - 2 = k + 14 by omega] at e1
   exact Zz
  refine Z91 ?_
  refine et_2 (i1 := 4) (i2 := 8) (by kernel_rfl) ?_ ?_
  ·
   refine Zo ?_
   refine Zy ?_
   refine Z4v ?_
   refine Z5n ?_
   refine Z4d ?_
   have e1 : sch (k + 1) (w16 bs 16) = sch k (w16 bs 16) ++ [next16 (sch k (w16 bs 16))] := rfl
   unfold next16 at e1
   rw [hml, show k + 16 - 16 = k by omega, show k + 16 - 15 = k + 1 by omega, show k + 16 - 7 = k + 9 by omega, show k + 16 - 2 = k + 14 by omega] at e1
   exact Zz
  refine Z4v ?_
  refine Z7g ?_ ?_
  ·
   refine Z3c ?_
   refine Z4d ?_
   have e1 : sch (k + 1) (w16 bs 16) = sch k (w16 bs 16) ++ [next16 (sch k (w16 bs 16))] := rfl
   unfold next16 at e1
   rw [hml, show k + 16 - 16 = k by omega, show k + 16 - 15 = k + 1 by omega, show k + 16 - 7 = k + 9 by omega, show k + 16 - 2 = k + 14 by omega] at e1
   exact Zz
  refine Z62 ?_
  refine Z63 ?_ ?_
  ·
   refine Z3c ?_
   refine Z2h ?_
   refine Z5q ?_
   have e1 : sch (k + 1) (w16 bs 16) = sch k (w16 bs 16) ++ [next16 (sch k (w16 bs 16))] := rfl
   unfold next16 at e1
   rw [hml, show k + 16 - 16 = k by omega, show k + 16 - 15 = k + 1 by omega, show k + 16 - 7 = k + 9 by omega, show k + 16 - 2 = k + 14 by omega] at e1
   exact Zz
  refine Z58 ?_
  refine Z2i ?_
  refine Z2g ?_
  refine Z3c ?_
  refine Z2e ?_
  refine Z4q ?_
  have e1 : sch (k + 1) (w16 bs 16) = sch k (w16 bs 16) ++ [next16 (sch k (w16 bs 16))] := rfl
  unfold next16 at e1
  rw [hml, show k + 16 - 16 = k by omega, show k + 16 - 15 = k + 1 by omega, show k + 16 - 7 = k + 9 by omega, show k + 16 - 2 = k + 14 by omega] at e1
  exact Zz
 have hp2 := hb2
 (try simp only [bn] at hp2)
 have hk48 : k = 48 := by omega
 have e9 : fillA (sch k (w16 bs 16)) = layM bs := by rw [fillA_64 (by rw [hml]; omega), hk48, layM]
 refine Z2d ?_
 refine oq (op_lda (L := wC _) 0 ag_168 rfl rfl (List.take_of_length_le (by simp [wC_len] <;> omega)) (by simp [wC_len] <;> omega)) ?_
 refine Z9 ?_
 refine oN (os_storew (wC _) ag_168 rfl rfl (by rw [wC_len]; exact hfl) (wC_one _) (by simp [wC_len, w8C_len]) (Free.zero _)) ?_; rintro _ _ ⟨rfl, rfl⟩
 refine Z1s ?_
 exact px_rv1 rfl (rv_cella 0 ag_168 rfl rfl (List.take_of_length_le (by first | (simp [wC_len]; done) | (simp [wC_len]; omega))) (by first | (simp [wC_len]; done) | (simp [wC_len]; omega))) (fun _ s => ((s.del 1).del 0)) ⟨by rw [e9], rfl⟩
end Go.SL

set_option linter.unusedVariables false
set_option linter.unusedSimpArgs false
namespace Go.SL
open Go.Proofs

set_option maxRecDepth 100000 in
set_option maxHeartbeats 1000000 in
theorem take_calls {w0 w : World} {l : List HProp} (p : Nat) (q : St) (bo : Option Addr) (bc : Nat) (bs : List UInt8) (hs : Sat w0 w ((Blk p (.cells (stC q).toArray 179 (0, 0))) :: l)) (hr : Rds w0 l encU8 bo bs) (hb : bs.length = 64) :
  Calls Try.prog 115 #[.pointer (some ⟨p, 0, none⟩), .slice bo bs.length bc] w (Ret w0 fun v l' => v = .tuple #[] ∧ l' = Blk p (.cells (stC ⟨blk8 q.w bs, q.rest, q.size⟩).toArray 179 (0, 0)) :: l) := by
 refine calls_enter Try.func115 rfl rfl rfl hs ?_
 refine cd_cut (α := Nat × Nat × Nat) [(4, 6), (13, 19)] (fun x => [(4, .pointer (some ⟨x.1, 0, none⟩)), (5, .pointer (some ⟨x.2.1, 0, none⟩)), (6, .pointer (some ⟨x.2.2, 0, none⟩))]) (fun x => Blk x.1 (.cells (wC (layM bs)).toArray 168 (0, 0)) :: Blk x.2.1 (.cells (wC K64).toArray 168 (0, 0)) :: Blk x.2.2 (.cells (wC q.w.1).toArray 164 (0, 0)) :: Blk p (.cells (stC q).toArray 179 (0, 0)) :: l) ?_ ?_
 ·
  refine cd_drawe (M := []) mx [1, 2, 7, 8, 9, 10, 11, 12] ?_
  refine e_q 0 rfl (wn_none rfl) (op_move (v := .slice _ _ _) rfl) ?_
  refine e_q 3 rfl (wn_none rfl) (op_move (v := .pointer _) rfl) ?_
  refine e_q 4 rfl (wn_none rfl) (op_nilck rfl) ?_
  refine e_q 5 rfl (wn_none rfl) (op_field fld_179_0 rfl) ?_
  refine e_q 6 rfl (wn_none rfl) (op_lda  0 ag_164 rfl rfl (stC_af0 _) (by simp [stC_len])) ?_
  refine et_4 (i1 := 1) (i2 := 7) (i3 := 8) (i4 := 9) (by kernel_rfl) ?_ ?_ ?_ ?_
  ·
   refine ei_i rfl rfl (wn_none rfl) (os_call cb_118 rfl (fun w s => lay_calls _ _ _  s (hr.cons _) (by assumption))) rfl ?_; rintro _ _ ⟨rfl, rfl⟩; refine ⟨[], rfl, ?_⟩
   refine et_4 (i1 := 2) (i2 := 7) (i3 := 8) (i4 := 9) (by kernel_rfl) ?_ ?_ ?_ ?_
   ·
    refine ei_i rfl rfl (wn_none rfl) (os_call cb_119 rfl (fun w s => keys_calls  s )) rfl ?_; rintro _ _ ⟨rfl, rfl⟩; refine ⟨[], rfl, ?_⟩
    refine et_3 (i1 := 7) (i2 := 8) (i3 := 9) (by kernel_rfl) ?_ ?_ ?_
    ·
     refine Z7h ?_; intro bx1
     refine et_2 (i1 := 8) (i2 := 9) (by kernel_rfl) ?_ ?_
     ·
      refine Z1i ?_; intro bx2
      refine Z26 ?_
      refine Z27 ?_; intro bx3
      refine Z1f ?_
      refine Z28 ?_
      refine Z10 ?_
      refine px_cut (bx1, bx2, bx3) ⟨rfl, rfl, rfl, trivial⟩ ?_ (fun _ s => ((((s.pull 3).pull 1).pull 2).pull 3))
      exact Z3
     refine Z46 ?_; intro bx4
     refine Zy ?_
     refine Z1o ?_; intro bx5
     refine Z28 ?_
     refine Z11 ?_
     refine px_cut (bx1, bx5, bx4) ⟨rfl, rfl, rfl, trivial⟩ ?_ (fun _ s => ((((s.pull 3).pull 1).pull 2).pull 3))
     exact Z3
    ·
     refine Z7h ?_; intro bx6
     refine et_2 (i1 := 7) (i2 := 9) (by kernel_rfl) ?_ ?_
     ·
      refine Z1i ?_; intro bx7
      refine Z26 ?_
      refine Z27 ?_; intro bx8
      refine Z1f ?_
      refine Z29 ?_
      refine Z10 ?_
      refine px_cut (bx7, bx6, bx8) ⟨rfl, rfl, rfl, trivial⟩ ?_ (fun _ s => ((((s.pull 3).pull 1).pull 2).pull 3))
      exact Z3
     refine Z46 ?_; intro bx9
     refine Zt ?_
     refine Z1o ?_; intro bx10
     refine Z2a ?_
     refine Z10 ?_
     refine px_cut (bx10, bx6, bx9) ⟨rfl, rfl, rfl, trivial⟩ ?_ (fun _ s => ((((s.pull 3).pull 1).pull 2).pull 3))
     exact Z3
    refine Zb1 ?_; intro bx11
    refine et_2 (i1 := 7) (i2 := 8) (by kernel_rfl) ?_ ?_
    ·
     refine Z1i ?_; intro bx12
     refine Zy ?_
     refine Z1o ?_; intro bx13
     refine Z29 ?_
     refine Z11 ?_
     refine px_cut (bx12, bx13, bx11) ⟨rfl, rfl, rfl, trivial⟩ ?_ (fun _ s => ((((s.pull 3).pull 1).pull 2).pull 3))
     exact Z3
    refine Z1i ?_; intro bx14
    refine Zt ?_
    refine Z1o ?_; intro bx15
    refine Z2a ?_
    refine Z11 ?_
    refine px_cut (bx15, bx14, bx11) ⟨rfl, rfl, rfl, trivial⟩ ?_ (fun _ s => ((((s.pull 3).pull 1).pull 2).pull 3))
    exact Z3
   ·
    refine Z7h ?_; intro bx16
    refine et_3 (i1 := 2) (i2 := 8) (i3 := 9) (by kernel_rfl) ?_ ?_ ?_
    ·
     refine Z7i ?_
     refine et_2 (i1 := 8) (i2 := 9) (by kernel_rfl) ?_ ?_
     ·
      refine Z1i ?_; intro bx17
      refine Z26 ?_
      refine Z27 ?_; intro bx18
      refine Z1f ?_
      refine Z28 ?_
      refine Z10 ?_
      refine px_cut (bx16, bx17, bx18) ⟨rfl, rfl, rfl, trivial⟩ ?_ (fun _ s => ((((s.pull 3).pull 1).pull 2).pull 3))
      exact Z3
     refine Z46 ?_; intro bx19
     refine Zy ?_
     refine Z1o ?_; intro bx20
     refine Z28 ?_
     refine Z11 ?_
     refine px_cut (bx16, bx20, bx19) ⟨rfl, rfl, rfl, trivial⟩ ?_ (fun _ s => ((((s.pull 3).pull 1).pull 2).pull 3))
     exact Z3
    ·
     refine Z1i ?_; intro bx21
     refine Z7j ?_ ?_
     ·
      refine Z2n ?_
      refine Z26 ?_
      refine Z27 ?_; intro bx22
      refine Z1f ?_
      refine Z28 ?_
      refine Z10 ?_
      refine px_cut (bx16, bx21, bx22) ⟨rfl, rfl, rfl, trivial⟩ ?_ (fun _ s => ((((s.pull 3).pull 1).pull 2).pull 3))
      exact Z3
     refine Z27 ?_; intro bx23
     refine Z1m ?_
     refine Z28 ?_
     refine Z10 ?_
     refine px_cut (bx16, bx21, bx23) ⟨rfl, rfl, rfl, trivial⟩ ?_ (fun _ s => ((((s.pull 3).pull 1).pull 2).pull 3))
     exact Z3
    refine Z46 ?_; intro bx24
    refine Z7k ?_ ?_
    ·
     refine Z2n ?_
     refine Zy ?_
     refine Z1o ?_; intro bx25
     refine Z28 ?_
     refine Z11 ?_
     refine px_cut (bx16, bx25, bx24) ⟨rfl, rfl, rfl, trivial⟩ ?_ (fun _ s => ((((s.pull 3).pull 1).pull 2).pull 3))
     exact Z3
    refine Z2r ?_; intro bx26
    refine Z1m ?_
    refine Z28 ?_
    refine Z11 ?_
    refine px_cut (bx16, bx26, bx24) ⟨rfl, rfl, rfl, trivial⟩ ?_ (fun _ s => ((((s.pull 3).pull 1).pull 2).pull 3))
    exact Z3
   ·
    refine Z7h ?_; intro bx27
    refine et_3 (i1 := 2) (i2 := 7) (i3 := 9) (by kernel_rfl) ?_ ?_ ?_
    ·
     refine Z7i ?_
     refine et_2 (i1 := 7) (i2 := 9) (by kernel_rfl) ?_ ?_
     ·
      refine Z1i ?_; intro bx28
      refine Z26 ?_
      refine Z27 ?_; intro bx29
      refine Z1f ?_
      refine Z29 ?_
      refine Z10 ?_
      refine px_cut (bx28, bx27, bx29) ⟨rfl, rfl, rfl, trivial⟩ ?_ (fun _ s => ((((s.pull 3).pull 1).pull 2).pull 3))
      exact Z3
     refine Z46 ?_; intro bx30
     refine Zt ?_
     refine Z1o ?_; intro bx31
     refine Z2a ?_
     refine Z10 ?_
     refine px_cut (bx31, bx27, bx30) ⟨rfl, rfl, rfl, trivial⟩ ?_ (fun _ s => ((((s.pull 3).pull 1).pull 2).pull 3))
     exact Z3
    ·
     refine Z1i ?_; intro bx32
     refine Z7j ?_ ?_
     ·
      refine Z2n ?_
      refine Z26 ?_
      refine Z27 ?_; intro bx33
      refine Z1f ?_
      refine Z29 ?_
      refine Z10 ?_
      refine px_cut (bx32, bx27, bx33) ⟨rfl, rfl, rfl, trivial⟩ ?_ (fun _ s => ((((s.pull 3).pull 1).pull 2).pull 3))
      exact Z3
     refine Z27 ?_; intro bx34
     refine Z1m ?_
     refine Z29 ?_
     refine Z10 ?_
     refine px_cut (bx32, bx27, bx34) ⟨rfl, rfl, rfl, trivial⟩ ?_ (fun _ s => ((((s.pull 3).pull 1).pull 2).pull 3))
     exact Z3
    refine Z46 ?_; intro bx35
    refine Z7l ?_ ?_
    ·
     refine Z2n ?_
     refine Zt ?_
     refine Z1o ?_; intro bx36
     refine Z2a ?_
     refine Z10 ?_
     refine px_cut (bx36, bx27, bx35) ⟨rfl, rfl, rfl, trivial⟩ ?_ (fun _ s => ((((s.pull 3).pull 1).pull 2).pull 3))
     exact Z3
    refine Z2r ?_; intro bx37
    refine Z1m ?_
    refine Z2a ?_
    refine Z10 ?_
    refine px_cut (bx37, bx27, bx35) ⟨rfl, rfl, rfl, trivial⟩ ?_ (fun _ s => ((((s.pull 3).pull 1).pull 2).pull 3))
    exact Z3
   refine Zb1 ?_; intro bx38
   refine et_3 (i1 := 2) (i2 := 7) (i3 := 8) (by kernel_rfl) ?_ ?_ ?_
   ·
    refine Z7i ?_
    refine et_2 (i1 := 7) (i2 := 8) (by kernel_rfl) ?_ ?_
    ·
     refine Z1i ?_; intro bx39
     refine Zy ?_
     refine Z1o ?_; intro bx40
     refine Z29 ?_
     refine Z11 ?_
     refine px_cut (bx39, bx40, bx38) ⟨rfl, rfl, rfl, trivial⟩ ?_ (fun _ s => ((((s.pull 3).pull 1).pull 2).pull 3))
     exact Z3
    refine Z1i ?_; intro bx41
    refine Zt ?_
    refine Z1o ?_; intro bx42
    refine Z2a ?_
    refine Z11 ?_
    refine px_cut (bx42, bx41, bx38) ⟨rfl, rfl, rfl, trivial⟩ ?_ (fun _ s => ((((s.pull 3).pull 1).pull 2).pull 3))
    exact Z3
   ·
    refine Z1i ?_; intro bx43
    refine Z7k ?_ ?_
    ·
     refine Z2n ?_
     refine Zy ?_
     refine Z1o ?_; intro bx44
     refine Z29 ?_
     refine Z11 ?_
     refine px_cut (bx43, bx44, bx38) ⟨rfl, rfl, rfl, trivial⟩ ?_ (fun _ s => ((((s.pull 3).pull 1).pull 2).pull 3))
     exact Z3
    refine Z2r ?_; intro bx45
    refine Z1m ?_
    refine Z29 ?_
    refine Z11 ?_
    refine px_cut (bx43, bx45, bx38) ⟨rfl, rfl, rfl, trivial⟩ ?_ (fun _ s => ((((s.pull 3).pull 1).pull 2).pull 3))
    exact Z3
   refine Z1i ?_; intro bx46
   refine Z7l ?_ ?_
   ·
    refine Z2n ?_
    refine Zt ?_
    refine Z1o ?_; intro bx47
    refine Z2a ?_
    refine Z11 ?_
    refine px_cut (bx47, bx46, bx38) ⟨rfl, rfl, rfl, trivial⟩ ?_ (fun _ s => ((((s.pull 3).pull 1).pull 2).pull 3))
    exact Z3
   refine Z2r ?_; intro bx48
   refine Z1m ?_
   refine Z2a ?_
   refine Z11 ?_
   refine px_cut (bx48, bx46, bx38) ⟨rfl, rfl, rfl, trivial⟩ ?_ (fun _ s => ((((s.pull 3).pull 1).pull 2).pull 3))
   exact Z3
  ·
   refine Z7h ?_; intro bx49
   refine et_3 (i1 := 1) (i2 := 8) (i3 := 9) (by kernel_rfl) ?_ ?_ ?_
   ·
    refine Zb2 ?_
    refine et_3 (i1 := 2) (i2 := 8) (i3 := 9) (by kernel_rfl) ?_ ?_ ?_
    ·
     refine Z7i ?_
     refine et_2 (i1 := 8) (i2 := 9) (by kernel_rfl) ?_ ?_
     ·
      refine Z1i ?_; intro bx50
      refine Z26 ?_
      refine Z27 ?_; intro bx51
      refine Z1f ?_
      refine Z28 ?_
      refine Z10 ?_
      refine px_cut (bx49, bx50, bx51) ⟨rfl, rfl, rfl, trivial⟩ ?_ (fun _ s => ((((s.pull 3).pull 1).pull 2).pull 3))
      exact Z3
     refine Z46 ?_; intro bx52
     refine Zy ?_
     refine Z1o ?_; intro bx53
     refine Z28 ?_
     refine Z11 ?_
     refine px_cut (bx49, bx53, bx52) ⟨rfl, rfl, rfl, trivial⟩ ?_ (fun _ s => ((((s.pull 3).pull 1).pull 2).pull 3))
     exact Z3
    ·
     refine Z1i ?_; intro bx54
     refine Z7j ?_ ?_
     ·
      refine Z2n ?_
      refine Z26 ?_
      refine Z27 ?_; intro bx55
      refine Z1f ?_
      refine Z28 ?_
      refine Z10 ?_
      refine px_cut (bx49, bx54, bx55) ⟨rfl, rfl, rfl, trivial⟩ ?_ (fun _ s => ((((s.pull 3).pull 1).pull 2).pull 3))
      exact Z3
     refine Z27 ?_; intro bx56
     refine Z1m ?_
     refine Z28 ?_
     refine Z10 ?_
     refine px_cut (bx49, bx54, bx56) ⟨rfl, rfl, rfl, trivial⟩ ?_ (fun _ s => ((((s.pull 3).pull 1).pull 2).pull 3))
     exact Z3
    refine Z46 ?_; intro bx57
    refine Z7k ?_ ?_
    ·
     refine Z2n ?_
     refine Zy ?_
     refine Z1o ?_; intro bx58
     refine Z28 ?_
     refine Z11 ?_
     refine px_cut (bx49, bx58, bx57) ⟨rfl, rfl, rfl, trivial⟩ ?_ (fun _ s => ((((s.pull 3).pull 1).pull 2).pull 3))
     exact Z3
    refine Z2r ?_; intro bx59
    refine Z1m ?_
    refine Z28 ?_
    refine Z11 ?_
    refine px_cut (bx49, bx59, bx57) ⟨rfl, rfl, rfl, trivial⟩ ?_ (fun _ s => ((((s.pull 3).pull 1).pull 2).pull 3))
    exact Z3
   ·
    refine Z1i ?_; intro bx60
    refine et_2 (i1 := 1) (i2 := 9) (by kernel_rfl) ?_ ?_
    ·
     refine Z7m ?_
     refine Z7j ?_ ?_
     ·
      refine Z2n ?_
      refine Z26 ?_
      refine Z27 ?_; intro bx61
      refine Z1f ?_
      refine Z28 ?_
      refine Z10 ?_
      refine px_cut (bx49, bx60, bx61) ⟨rfl, rfl, rfl, trivial⟩ ?_ (fun _ s => ((((s.pull 3).pull 1).pull 2).pull 3))
      exact Z3
     refine Z27 ?_; intro bx62
     refine Z1m ?_
     refine Z28 ?_
     refine Z10 ?_
     refine px_cut (bx49, bx60, bx62) ⟨rfl, rfl, rfl, trivial⟩ ?_ (fun _ s => ((((s.pull 3).pull 1).pull 2).pull 3))
     exact Z3
    refine Z27 ?_; intro bx63
    refine Z3f ?_
    refine Z7n ?_
    refine Z1m ?_
    refine Z28 ?_
    refine Z10 ?_
    refine px_cut (bx49, bx60, bx63) ⟨rfl, rfl, rfl, trivial⟩ ?_ (fun _ s => ((((s.pull 3).pull 1).pull 2).pull 3))
    exact Z3
   refine Z46 ?_; intro bx64
   refine et_2 (i1 := 1) (i2 := 8) (by kernel_rfl) ?_ ?_
   ·
    refine Z7m ?_
    refine Z7k ?_ ?_
    ·
     refine Z2n ?_
     refine Zy ?_
     refine Z1o ?_; intro bx65
     refine Z28 ?_
     refine Z11 ?_
     refine px_cut (bx49, bx65, bx64) ⟨rfl, rfl, rfl, trivial⟩ ?_ (fun _ s => ((((s.pull 3).pull 1).pull 2).pull 3))
     exact Z3
    refine Z2r ?_; intro bx66
    refine Z1m ?_
    refine Z28 ?_
    refine Z11 ?_
    refine px_cut (bx49, bx66, bx64) ⟨rfl, rfl, rfl, trivial⟩ ?_ (fun _ s => ((((s.pull 3).pull 1).pull 2).pull 3))
    exact Z3
   refine Z2r ?_; intro bx67
   refine Z3f ?_
   refine Z7n ?_
   refine Z1m ?_
   refine Z28 ?_
   refine Z11 ?_
   refine px_cut (bx49, bx67, bx64) ⟨rfl, rfl, rfl, trivial⟩ ?_ (fun _ s => ((((s.pull 3).pull 1).pull 2).pull 3))
   exact Z3
  ·
   refine Z7h ?_; intro bx68
   refine et_3 (i1 := 1) (i2 := 7) (i3 := 9) (by kernel_rfl) ?_ ?_ ?_
   ·
    refine Zb2 ?_
    refine et_3 (i1 := 2) (i2 := 7) (i3 := 9) (by kernel_rfl) ?_ ?_ ?_
    ·
     refine Z7i ?_
     refine et_2 (i1 := 7) (i2 := 9) (by kernel_rfl) ?_ ?_
     ·
      refine Z1i ?_; intro bx69
      refine Z26 ?_
      refine Z27 ?_; intro bx70
      refine Z1f ?_
      refine Z29 ?_
      refine Z10 ?_
      refine px_cut (bx69, bx68, bx70) ⟨rfl, rfl, rfl, trivial⟩ ?_ (fun _ s => ((((s.pull 3).pull 1).pull 2).pull 3))
      exact Z3
     refine Z46 ?_; intro bx71
     refine Zt ?_
     refine Z1o ?_; intro bx72
     refine Z2a ?_
     refine Z10 ?_
     refine px_cut (bx72, bx68, bx71) ⟨rfl, rfl, rfl, trivial⟩ ?_ (fun _ s => ((((s.pull 3).pull 1).pull 2).pull 3))
     exact Z3
    ·
     refine Z1i ?_; intro bx73
     refine Z7j ?_ ?_
     ·
      refine Z2n ?_
      refine Z26 ?_
      refine Z27 ?_; intro bx74
      refine Z1f ?_
      refine Z29 ?_
      refine Z10 ?_
      refine px_cut (bx73, bx68, bx74) ⟨rfl, rfl, rfl, trivial⟩ ?_ (fun _ s => ((((s.pull 3).pull 1).pull 2).pull 3))
      exact Z3
     refine Z27 ?_; intro bx75
     refine Z1m ?_
     refine Z29 ?_
     refine Z10 ?_
     refine px_cut (bx73, bx68, bx75) ⟨rfl, rfl, rfl, trivial⟩ ?_ (fun _ s => ((((s.pull 3).pull 1).pull 2).pull 3))
     exact Z3
    refine Z46 ?_; intro bx76
    refine Z7l ?_ ?_
    ·
     refine Z2n ?_
     refine Zt ?_
     refine Z1o ?_; intro bx77
     refine Z2a ?_
     refine Z10 ?_
     refine px_cut (bx77, bx68, bx76) ⟨rfl, rfl, rfl, trivial⟩ ?_ (fun _ s => ((((s.pull 3).pull 1).pull 2).pull 3))
     exact Z3
    refine Z2r ?_; intro bx78
    refine Z1m ?_
    refine Z2a ?_
    refine Z10 ?_
    refine px_cut (bx78, bx68, bx76) ⟨rfl, rfl, rfl, trivial⟩ ?_ (fun _ s => ((((s.pull 3).pull 1).pull 2).pull 3))
    exact Z3
   ·
    refine Z1i ?_; intro bx79
    refine et_2 (i1 := 1) (i2 := 9) (by kernel_rfl) ?_ ?_
    ·
     refine Z7m ?_
     refine Z7j ?_ ?_
     ·
      refine Z2n ?_
      refine Z26 ?_
      refine Z27 ?_; intro bx80
      refine Z1f ?_
      refine Z29 ?_
      refine Z10 ?_
      refine px_cut (bx79, bx68, bx80) ⟨rfl, rfl, rfl, trivial⟩ ?_ (fun _ s => ((((s.pull 3).pull 1).pull 2).pull 3))
      exact Z3
     refine Z27 ?_; intro bx81
     refine Z1m ?_
     refine Z29 ?_
     refine Z10 ?_
     refine px_cut (bx79, bx68, bx81) ⟨rfl, rfl, rfl, trivial⟩ ?_ (fun _ s => ((((s.pull 3).pull 1).pull 2).pull 3))
     exact Z3
    refine Z27 ?_; intro bx82
    refine Z3f ?_
    refine Z7n ?_
    refine Z1m ?_
    refine Z29 ?_
    refine Z10 ?_
    refine px_cut (bx79, bx68, bx82) ⟨rfl, rfl, rfl, trivial⟩ ?_ (fun _ s => ((((s.pull 3).pull 1).pull 2).pull 3))
    exact Z3
   refine Z46 ?_; intro bx83
   refine et_2 (i1 := 1) (i2 := 7) (by kernel_rfl) ?_ ?_
   ·
    refine Z7m ?_
    refine Z7l ?_ ?_
    ·
     refine Z2n ?_
     refine Zt ?_
     refine Z1o ?_; intro bx84
     refine Z2a ?_
     refine Z10 ?_
     refine px_cut (bx84, bx68, bx83) ⟨rfl, rfl, rfl, trivial⟩ ?_ (fun _ s => ((((s.pull 3).pull 1).pull 2).pull 3))
     exact Z3
    refine Z2r ?_; intro bx85
    refine Z1m ?_
    refine Z2a ?_
    refine Z10 ?_
    refine px_cut (bx85, bx68, bx83) ⟨rfl, rfl, rfl, trivial⟩ ?_ (fun _ s => ((((s.pull 3).pull 1).pull 2).pull 3))
    exact Z3
   refine Z2r ?_; intro bx86
   refine Z3f ?_
   refine Z7n ?_
   refine Z1m ?_
   refine Z2a ?_
   refine Z10 ?_
   refine px_cut (bx86, bx68, bx83) ⟨rfl, rfl, rfl, trivial⟩ ?_ (fun _ s => ((((s.pull 3).pull 1).pull 2).pull 3))
   exact Z3
  refine Zb1 ?_; intro bx87
  refine et_3 (i1 := 1) (i2 := 7) (i3 := 8) (by kernel_rfl) ?_ ?_ ?_
  ·
   refine Zb2 ?_
   refine et_3 (i1 := 2) (i2 := 7) (i3 := 8) (by kernel_rfl) ?_ ?_ ?_
   ·
    refine Z7i ?_
    refine et_2 (i1 := 7) (i2 := 8) (by kernel_rfl) ?_ ?_
    ·
     refine Z1i ?_; intro bx88
     refine Zy ?_
     refine Z1o ?_; intro bx89
     refine Z29 ?_
     refine Z11 ?_
     refine px_cut (bx88, bx89, bx87) ⟨rfl, rfl, rfl, trivial⟩ ?_ (fun _ s => ((((s.pull 3).pull 1).pull 2).pull 3))
     exact Z3
    refine Z1i ?_; intro bx90
    refine Zt ?_
    refine Z1o ?_; intro bx91
    refine Z2a ?_
    refine Z11 ?_
    refine px_cut (bx91, bx90, bx87) ⟨rfl, rfl, rfl, trivial⟩ ?_ (fun _ s => ((((s.pull 3).pull 1).pull 2).pull 3))
    exact Z3
   ·
    refine Z1i ?_; intro bx92
    refine Z7k ?_ ?_
    ·
     refine Z2n ?_
     refine Zy ?_
     refine Z1o ?_; intro bx93
     refine Z29 ?_
     refine Z11 ?_
     refine px_cut (bx92, bx93, bx87) ⟨rfl, rfl, rfl, trivial⟩ ?_ (fun _ s => ((((s.pull 3).pull 1).pull 2).pull 3))
     exact Z3
    refine Z2r ?_; intro bx94
    refine Z1m ?_
    refine Z29 ?_
    refine Z11 ?_
    refine px_cut (bx92, bx94, bx87) ⟨rfl, rfl, rfl, trivial⟩ ?_ (fun _ s => ((((s.pull 3).pull 1).pull 2).pull 3))
    exact Z3
   refine Z1i ?_; intro bx95
   refine Z7l ?_ ?_
   ·
    refine Z2n ?_
    refine Zt ?_
    refine Z1o ?_; intro bx96
    refine Z2a ?_
    refine Z11 ?_
    refine px_cut (bx96, bx95, bx87) ⟨rfl, rfl, rfl, trivial⟩ ?_ (fun _ s => ((((s.pull 3).pull 1).pull 2).pull 3))
    exact Z3
   refine Z2r ?_; intro bx97
   refine Z1m ?_
   refine Z2a ?_
   refine Z11 ?_
   refine px_cut (bx97, bx95, bx87) ⟨rfl, rfl, rfl, trivial⟩ ?_ (fun _ s => ((((s.pull 3).pull 1).pull 2).pull 3))
   exact Z3
  ·
   refine Z1i ?_; intro bx98
   refine et_2 (i1 := 1) (i2 := 8) (by kernel_rfl) ?_ ?_
   ·
    refine Z7m ?_
    refine Z7k ?_ ?_
    ·
     refine Z2n ?_
     refine Zy ?_
     refine Z1o ?_; intro bx99
     refine Z29 ?_
     refine Z11 ?_
     refine px_cut (bx98, bx99, bx87) ⟨rfl, rfl, rfl, trivial⟩ ?_ (fun _ s => ((((s.pull 3).pull 1).pull 2).pull 3))
     exact Z3
    refine Z2r ?_; intro bx100
    refine Z1m ?_
    refine Z29 ?_
    refine Z11 ?_
    refine px_cut (bx98, bx100, bx87) ⟨rfl, rfl, rfl, trivial⟩ ?_ (fun _ s => ((((s.pull 3).pull 1).pull 2).pull 3))
    exact Z3
   refine Z2r ?_; intro bx101
   refine Z3f ?_
   refine Z7n ?_
   refine Z1m ?_
   refine Z29 ?_
   refine Z11 ?_
   refine px_cut (bx98, bx101, bx87) ⟨rfl, rfl, rfl, trivial⟩ ?_ (fun _ s => ((((s.pull 3).pull 1).pull 2).pull 3))
   exact Z3
  refine Z1i ?_; intro bx102
  refine et_2 (i1 := 1) (i2 := 7) (by kernel_rfl) ?_ ?_
  ·
   refine Z7m ?_
   refine Z7l ?_ ?_
   ·
    refine Z2n ?_
    refine Zt ?_
    refine Z1o ?_; intro bx103
    refine Z2a ?_
    refine Z11 ?_
    refine px_cut (bx103, bx102, bx87) ⟨rfl, rfl, rfl, trivial⟩ ?_ (fun _ s => ((((s.pull 3).pull 1).pull 2).pull 3))
    exact Z3
   refine Z2r ?_; intro bx104
   refine Z1m ?_
   refine Z2a ?_
   refine Z11 ?_
   refine px_cut (bx104, bx102, bx87) ⟨rfl, rfl, rfl, trivial⟩ ?_ (fun _ s => ((((s.pull 3).pull 1).pull 2).pull 3))
   exact Z3
  refine Z2r ?_; intro bx105
  refine Z3f ?_
  refine Z7n ?_
  refine Z1m ?_
  refine Z2a ?_
  refine Z11 ?_
  refine px_cut (bx105, bx102, bx87) ⟨rfl, rfl, rfl, trivial⟩ ?_ (fun _ s => ((((s.pull 3).pull 1).pull 2).pull 3))
  exact Z3
 rintro ⟨b4, b5, b6⟩ f0; (try dsimp only)
 refine Zf ?_
 refine Z48 ?_
 refine cd_loop2 (α := Nat) [(7, 11), (20, 93)] (fun x => [(20, .int .i64 (x : Int))]) (fun x => Blk b6 (.cells (wC (rnds (layM bs) q.w.1 x)).toArray 164 (0, 0)) :: Blk b4 (.cells (wC (layM bs)).toArray 168 (0, 0)) :: Blk b5 (.cells (wC K64).toArray 168 (0, 0)) :: Blk p (.cells (stC q).toArray 179 (0, 0)) :: l) (fun x => x ≤ 64) (fun x => 64 - x) 0 (Nat.zero_le _) ⟨rfl, trivial⟩ (fun _ s => ((((s.pull 3).pull 2).pull 2).pull 3)) ?_
 rintro i hi f; (try dsimp only at hi ⊢)
 refine Zx ?_
 refine cd_cond rfl (fun hb1 => ?_) (fun hb1 => ?_)
 ·have hp1 := hb1
  (try simp only [bn] at hp1)
  have hi64 : i < 64 := by omega
  obtain ⟨va, vb, vc, vd, ve, vf, vg, vh, hv⟩ := list_len8 (rnds_len (W := layM bs) q.w.2 i)
  rw [hv]
  refine Z2t ?_
  refine Z8 ?_
  refine Z1u ?_
  refine rg_q (wn_none rfl) (op_aidx0 0 a1_164 rfl rfl rfl (by omega)) rfl rfl ?_
  refine rg_q (wn_none rfl) (op_ld 0 sc_163 rfl rfl (wC_at0 (by first | omega | (simp; done) | (simp; omega)))) rfl rfl ?_
  refine rg_q (wn_none rfl) (op_aidx0 4 a1_164 rfl rfl rfl (by omega)) rfl rfl ?_
  refine rg_q (wn_none rfl) (op_ld 0 sc_163 rfl rfl (wC_at0 (by first | omega | (simp; done) | (simp; omega)))) rfl rfl ?_
  refine Z2w ?_
  refine Z3q ?_
  refine Z7 ?_
  refine cd_drawe (M := []) mx [3, 5, 8] ?_
  refine e_q 0 rfl (wn_none rfl) (op_aidx0 7 a1_164 rfl rfl rfl (by omega)) ?_
  refine e_q 1 rfl (wn_none rfl) (op_ld 0 sc_163 rfl rfl (wC_at0 (by first | omega | (simp; done) | (simp; omega)))) ?_
  refine e_q 2 rfl (wn_none rfl) (op_move (v := .int _ _) rfl) ?_
  refine e_q 4 rfl (wn_none rfl) (op_move (v := .int _ _) rfl) ?_
  refine e_q 7 rfl (wn_none rfl) (op_move (v := .int _ _) rfl) ?_
  refine e_q 11 rfl (wn_none rfl) (op_move (v := .int _ _) rfl) ?_
  refine e_q 12 rfl (wn_none rfl) (op_aidx0 5 a1_164 rfl rfl rfl (by omega)) ?_
  refine e_q 13 rfl (wn_none rfl) (op_ld 0 sc_163 rfl rfl (wC_at0 (by first | omega | (simp; done) | (simp; omega)))) ?_
  refine e_q 14 rfl (wn_none rfl) (op_and32 _ _ rfl rfl) ?_
  refine e_q 15 rfl (wn_none rfl) (op_move (v := .int _ _) rfl) ?_
  refine e_q 16 rfl (wn_none rfl) (op_not32 _ rfl) ?_
  refine e_q 17 rfl (wn_none rfl) (op_aidx0 6 a1_164 rfl rfl rfl (by omega)) ?_
  refine e_q 18 rfl (wn_none rfl) (op_ld 0 sc_163 rfl rfl (wC_at0 (by first | omega | (simp; done) | (simp; omega)))) ?_
  refine e_q 19 rfl (wn_none rfl) (op_and32 _ _ rfl rfl) ?_
  refine e_q 20 rfl (wn_none rfl) (op_xor32 _ _ rfl rfl) ?_
  refine e_q 22 rfl (wn_none rfl) (op_move (v := .int _ _) rfl) ?_
  refine e_q 23 rfl (wn_none rfl) (op_aidx0 _ a1_168 rfl rfl rfl (by omega)) ?_
  refine e_q 24 rfl (wn_none rfl) (op_ld 2 sc_163 rfl rfl (wC_gd (by rw [K64_len]; omega))) ?_
  refine e_q 26 rfl (wn_none rfl) (op_move (v := .int _ _) rfl) ?_
  refine e_q 27 rfl (wn_none rfl) (op_aidx0 _ a1_168 rfl rfl rfl (by omega)) ?_
  refine e_q 28 rfl (wn_none rfl) (op_ld 1 sc_163 rfl rfl (wC_gd (by rw [layM_len]; omega))) ?_
  refine et_1 (i := 3) (by kernel_rfl) ?_
  refine ei_i rfl rfl (wn_none rfl) (os_call cb_120 rfl (fun w s => turn_calls (k := 6) _  s (by decide) (by decide))) rfl ?_; rintro _ _ ⟨rfl, rfl⟩; refine ⟨[], rfl, ?_⟩
  refine Z6x ?_
  refine ei_i rfl rfl (wn_none rfl) (os_call cb_120 rfl (fun w s => turn_calls (k := 11) _  s (by decide) (by decide))) rfl ?_; rintro _ _ ⟨rfl, rfl⟩; refine ⟨[], rfl, ?_⟩
  refine e_q 6 rfl (wn_none rfl) (op_xor32 _ _ rfl rfl) ?_
  refine Zy ?_
  refine ei_i rfl rfl (wn_none rfl) (os_call cb_120 rfl (fun w s => turn_calls (k := 25) _  s (by decide) (by decide))) rfl ?_; rintro _ _ ⟨rfl, rfl⟩; refine ⟨[], rfl, ?_⟩
  refine e_q 9 rfl (wn_none rfl) (op_xor32 _ _ rfl rfl) ?_
  refine e_q 10 rfl (wn_none rfl) (op_add32 _ _ rfl rfl) ?_
  refine e_q 21 rfl (wn_none rfl) (op_add32 _ _ rfl rfl) ?_
  refine e_q 25 rfl (wn_none rfl) (op_add32 _ _ rfl rfl) ?_
  refine e_q 29 rfl (wn_none rfl) (op_add32 _ _ rfl rfl) ?_
  refine e_q 30 rfl (wn_none rfl) (op_assign (v := .int _ _) rfl) ?_
  refine Z16 ?_
  refine Z7 ?_
  refine cd_drawe (M := []) mx [1, 3, 6] ?_
  refine Z6h ?_
  refine e_q 2 rfl (wn_none rfl) (op_move (v := .int _ _) rfl) ?_
  refine Z8x ?_
  refine e_q 8 rfl (wn_none rfl) (op_move (v := .int _ _) rfl) ?_
  refine e_q 9 rfl (wn_none rfl) (op_aidx0 1 a1_164 rfl rfl rfl (by omega)) ?_
  refine e_q 10 rfl (wn_none rfl) (op_ld 0 sc_163 rfl rfl (wC_at0 (by first | omega | (simp; done) | (simp; omega)))) ?_
  refine e_q 11 rfl (wn_none rfl) (op_and32 _ _ rfl rfl) ?_
  refine e_q 12 rfl (wn_none rfl) (op_move (v := .int _ _) rfl) ?_
  refine e_q 13 rfl (wn_none rfl) (op_aidx0 2 a1_164 rfl rfl rfl (by omega)) ?_
  refine e_q 14 rfl (wn_none rfl) (op_ld 0 sc_163 rfl rfl (wC_at0 (by first | omega | (simp; done) | (simp; omega)))) ?_
  refine e_q 15 rfl (wn_none rfl) (op_and32 _ _ rfl rfl) ?_
  refine e_q 16 rfl (wn_none rfl) (op_xor32 _ _ rfl rfl) ?_
  refine e_q 17 rfl (wn_none rfl) (op_aidx0 1 a1_164 rfl rfl rfl (by omega)) ?_
  refine e_q 18 rfl (wn_none rfl) (op_ld 0 sc_163 rfl rfl (wC_at0 (by first | omega | (simp; done) | (simp; omega)))) ?_
  refine e_q 19 rfl (wn_none rfl) (op_aidx0 2 a1_164 rfl rfl rfl (by omega)) ?_
  refine e_q 20 rfl (wn_none rfl) (op_ld 0 sc_163 rfl rfl (wC_at0 (by first | omega | (simp; done) | (simp; omega)))) ?_
  refine e_q 21 rfl (wn_none rfl) (op_and32 _ _ rfl rfl) ?_
  refine e_q 22 rfl (wn_none rfl) (op_xor32 _ _ rfl rfl) ?_
  refine Z3f ?_
  refine ei_i rfl rfl (wn_none rfl) (os_call cb_120 rfl (fun w s => turn_calls (k := 2) _  s (by decide) (by decide))) rfl ?_; rintro _ _ ⟨rfl, rfl⟩; refine ⟨[], rfl, ?_⟩
  refine et_1 (i := 3) (by kernel_rfl) ?_
  refine ei_i rfl rfl (wn_none rfl) (os_call cb_120 rfl (fun w s => turn_calls (k := 13) _  s (by decide) (by decide))) rfl ?_; rintro _ _ ⟨rfl, rfl⟩; refine ⟨[], rfl, ?_⟩
  refine e_q 4 rfl (wn_none rfl) (op_xor32 _ _ rfl rfl) ?_
  refine Z14 ?_
  refine ei_i rfl rfl (wn_none rfl) (os_call cb_120 rfl (fun w s => turn_calls (k := 22) _  s (by decide) (by decide))) rfl ?_; rintro _ _ ⟨rfl, rfl⟩; refine ⟨[], rfl, ?_⟩
  refine e_q 7 rfl (wn_none rfl) (op_xor32 _ _ rfl rfl) ?_
  refine e_q 23 rfl (wn_none rfl) (op_add32 _ _ rfl rfl) ?_
  refine e_q 24 rfl (wn_none rfl) (op_assign (v := .int _ _) rfl) ?_
  refine Z16 ?_
  refine Z7 ?_
  refine cd_drawt (M := []) mx [] 2 (by kernel_rfl) rfl rfl ?_
  dsimp only [List.take_succ_cons, List.take_zero, List.drop_succ_cons, List.drop_zero]
  refine rg_q (wn_none rfl) (op_slicea_from 1 a1_164 rfl rfl rfl (by decide)) rfl rfl ?_
  refine rg_q (wn_none rfl) (op_slicea_to 7 a1_164 rfl rfl rfl (by decide) (by decide)) rfl rfl ?_
  refine rg_tail0 ?_
  refine oi (os_copyw (wC [va, va, vb, vc, vd, ve, vf, vg]) 190 rfl s1_190 rfl rfl (by simp [wC_len]) (by simp [wC_len]) (wC_one _) (Free.zero _) rfl) ?_; rintro _ _ ⟨rfl, rfl⟩
  refine Z19 ?_
  refine oq (op_aidx0 4 a1_164 rfl rfl rfl (by omega)) ?_
  refine oq (op_ld 0 sc_163 rfl rfl (wC_at0 (by first | omega | (simp; done) | (simp; omega)))) ?_
  refine Z4w ?_
  refine oq (op_aidx0 4 a1_164 rfl rfl rfl (by omega)) ?_
  refine Zbz ?_
  refine Z1 ?_
  refine Z1b ?_
  refine Z2u ?_
  refine oq (op_add32 _ _ rfl rfl) ?_
  refine oq (op_aidx0 0 a1_164 rfl rfl rfl (by omega)) ?_
  refine Zbz ?_
  refine Z35 ?_
  refine px_loop2 (i + 1) (by omega) (by (try dsimp only); omega) ⟨congrArg (Value.int .i64) (by simp), trivial⟩ ?_ (fun _ s => (by (try dsimp only); rw [rnds, hv]; exact s))
  exact Z2
 have hp1 := hb1
 (try simp only [bn] at hp1)
 obtain rfl : i = 64 := by omega
 refine Z1e ?_
 refine Z18 ?_
 refine Z48 ?_
 refine cd_loop2 (α := Nat) [(12, 12), (94, 110)] (fun x => [(94, .int .i64 (x : Int))]) (fun x => Blk p (.cells (stC ⟨q.w.add (rnds (layM bs) q.w.1 64) x, q.rest, q.size⟩).toArray 179 (0, 0)) :: Blk b6 (.cells (wC (rnds (layM bs) q.w.1 64)).toArray 164 (0, 0)) :: l) (fun x => x ≤ 8) (fun x => 8 - x) 0 (Nat.zero_le _) ⟨rfl, trivial⟩ (fun _ s => by rw [W8.add_zero]; exact (((s.del 2).del 1).pull 1)) ?_
 rintro j hj f; (try dsimp only at hj ⊢)
 refine Zx ?_
 refine cd_cond rfl (fun hb2 => ?_) (fun hb2 => ?_)
 ·have hp2 := hb2
  (try simp only [bn] at hp2)
  have hj8 : j < 8 := by omega
  refine Z2t ?_
  refine Z8 ?_
  refine cd_drawt (M := []) mx [] 13 (by kernel_rfl) rfl rfl ?_
  dsimp only [List.take_succ_cons, List.take_zero, List.drop_succ_cons, List.drop_zero]
  refine Zd ?_
  refine Ze ?_
  refine Z9e ?_
  refine rg_q (wn_none rfl) (op_field fld_179_0 rfl) rfl rfl ?_
  refine rg_q (wn_none rfl) (op_aidx0 _ a1_164 rfl rfl rfl (by omega)) rfl rfl ?_
  refine rg_q (wn_none rfl) (op_ld 0 sc_163 rfl rfl (stC_wld _ _ _ _ hj8)) rfl rfl ?_
  refine Ze ?_
  refine rg_q (wn_none rfl) (op_aidx0 _ a1_164 rfl rfl rfl (by omega)) rfl rfl ?_
  refine rg_q (wn_none rfl) (op_ld 1 sc_163 rfl rfl (wC_gd (by rw [rnds_len q.w.2]; omega))) rfl rfl ?_
  refine rg_q (wn_none rfl) (op_add32 _ _ rfl rfl) rfl rfl ?_
  refine Z9e ?_
  refine rg_q (wn_none rfl) (op_field fld_179_0 rfl) rfl rfl ?_
  refine rg_q (wn_none rfl) (op_aidx0 _ a1_164 rfl rfl rfl (by omega)) rfl rfl ?_
  refine rg_tail0 ?_
  refine oN (os_store (v := .int _ _) sc_163 rfl rfl rfl (Nat.ble_eq_true_of_le (show j + 1 ≤ _ by rw [List.size_toArray, stC_len]; omega)) (Free.zero _) (stC_wst _ _ _ _ hj8 rfl)) ?_; rintro _ _ ⟨rfl, rfl⟩
  refine Z35 ?_
  refine px_loop2 (j + 1) (by omega) (by (try dsimp only); omega) ⟨congrArg (Value.int .i64) (by simp), trivial⟩ ?_ (fun _ s => s)
  exact Z2
 have hp2 := hb2
 (try simp only [bn] at hp2)
 obtain rfl : j = 8 := by omega
 refine Z6m ?_
 exact px_end0 rfl (fun _ s => (s.del 1)) ⟨rfl, rfl⟩
end Go.SL


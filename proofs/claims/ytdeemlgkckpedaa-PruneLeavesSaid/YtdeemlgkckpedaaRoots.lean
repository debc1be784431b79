import Derived.Test.YtdeemlgkckpedaaTreeR
import Derived.Test.YtdeemlgkckpedaaEnv
set_option linter.unusedVariables false
set_option linter.unusedSimpArgs false
namespace Go.SL
open Go.Proofs

/-- what a round keeps -/
def Kb (B0 bx : Nat) (A B : World) : Prop := A.heap.size ≤ B.heap.size ∧ ∀ k, k < B0 → k ≠ bx → B.heap[k]? = A.heap[k]?
theorem Kb.trans {B0 bx : Nat} {A B C : World} (h : Kb B0 bx A B) (h' : Kb B0 bx B C) : Kb B0 bx A C := ⟨Nat.le_trans h.1 h'.1, fun k h1 h2 => (h'.2 k h1 h2).trans (h.2 k h1 h2)⟩
theorem Kb.of_grown {B0 bx : Nat} {A B : World} (h : A.grownBy B none) (hB : B0 ≤ A.heap.size) : Kb B0 bx A B := ⟨h.size, fun k h1 _ => h.block k (by omega) (by simp)⟩
theorem Kb.cell {B0 bx : Nat} {A B : World} (h : Kb B0 bx A B) {a : Addr} (h1 : a.block < B0) (h2 : a.block ≠ bx) : B.cell? a = A.cell? a := World.cell?_of_block (h.2 _ h1 h2)
def itmp (a : Act) (t : Nat) : Nat := match a.tmps.getD t undef with | .int _ i => i.toNat | _ => 0
set_option maxRecDepth 100000 in
set_option maxHeartbeats 1000000 in
theorem iter_stops (Bs : Nat) (xs : List Node) (ao : Option Addr) (c : Nat) (B0 bx : Nat) (w : World) (hB : B0 ≤ w.heap.size) (hBs : Bs < B0) (hBx : Bs ≠ bx) (hcell : w.heap[Bs]? = some (.cells #[.slice ao xs.length c] 111 (0, 0)))
  (hn : ao = none → xs = []) (hc : ∀ ad, ao = some ad → ad.block < B0 ∧ ad.block ≠ bx ∧ ∀ j u, (encNode.flat xs)[j]? = some u → w.cell? (ad.add j) = some u) (hlen : xs.length ≤ 1000000) :
  SeqStopsK Fence.wide 3 Try.prog 79 #[.pointer (some ⟨Bs, 0, none⟩)] (fun x : Node => #[Value.agg (nodeC x).toArray]) (Kb B0 bx) (fun ys => ys = xs) (fun _ => True) xs.length w := fun lp J Jx W hW hJ hJx hY h0 => by
 have hK0 : Kb B0 bx w W := ⟨hW.size, fun k h1 _ => hW.block k (by omega)⟩
 have rs : ∀ V l, Kb B0 bx w V → Rds V (Old V [] :: l) encSl (some ⟨Bs, 0, none⟩) [(ao, xs.length, c)] := fun V l h => rds_old 0 rfl (fun e => by cases e) fun ad he j u hu => by
  cases he
  have hj : j = 0 := by
   have := (List.getElem?_eq_some_iff.1 hu).1
   simp [Enc.flat, encSl] at this
   omega
  subst hj
  simp [Enc.flat, encSl] at hu
  subst hu
  have e : (⟨Bs, 0, none⟩ : Addr).add 0 = ⟨Bs, 0, none⟩ := rfl
  rw [e, h.cell hBs hBx]
  simp [World.cell?, hcell]
 have rn : ∀ V l, Kb B0 bx w V → Rds V (Old V [] :: l) encNode ao xs := fun V l h => rds_old 0 rfl hn fun ad he j u hu => by
  obtain ⟨h1, h2, h4⟩ := hc ad he
  have e : (ad.add j).block = ad.block := by unfold Addr.add; split <;> rfl
  rw [h.cell (by rw [e]; exact h1) (by rw [e]; exact h2)]
  exact h4 j u hu
 refine callsI_enter (w0 := W) Try.func79 rfl rfl rfl (Sat.start W) ?_
 refine cdi_sr ?_
 refine oli_q (wn_none rfl) (op_ldw (E := encSl) (i := 0) sc_111 (rs W [] hK0) rfl (by simp) rfl) rfl ?_
 refine oli_q (wn_none rfl) (op_len_slice Try.underlying111 rfl) rfl ?_
 refine oli_q (wn_none rfl) (op_move (v := .int _ _) rfl) rfl ?_
 refine oli_nil_then ?_
 refine cdi_block ?_
 intro a w1 ra s1
 refine wpIn_loop (fun a w' => ∃ k, k ≤ xs.length ∧ a.tmps.size = 16 ∧ a.defers = [] ∧ a.tmps.getD 0 undef = .func (.yield lp) #[] #[] ∧ a.tmps.getD 5 undef = .slice ao xs.length c ∧ a.tmps.getD 6 undef = .int .i64 xs.length ∧ a.tmps.getD 7 undef = .int .i64 (k : Int) ∧ J (xs.take k) w' ∧ Kb B0 bx w w' ∧ B0 ≤ w'.heap.size) (fun a _ => xs.length - itmp a 7)
  ⟨0, Nat.zero_le _, ra.size, ra.defers, (ra.get 0).trans rfl, (ra.get 5).trans rfl, (ra.get 6).trans rfl, (ra.get 7).trans rfl, hJ [] W w1 none h0 s1.grown (fun r e => by cases e), hK0.trans (.of_grown s1.grown (Nat.le_trans hB hW.size)), Nat.le_trans hB (Nat.le_trans hW.size s1.size)⟩ ?_
 rintro a2 w2 ⟨k, hk, hsz, hdf, t0, t5, t6, t7, hJk, hKb, hBw⟩
 have hm : itmp a2 7 = k := by unfold itmp; rw [t7]; simp
 have hA : Agree (fun t => a2.tmps.getD t undef) [(0, .func (.yield lp) #[] #[]), (5, .slice ao xs.length c), (6, .int .i64 xs.length), (7, .int .i64 (k : Int))] := ⟨t0, t5, t6, t7, trivial⟩
 have ra2 : Rep 16 a2 (upds (fun t => a2.tmps.getD t undef) [(0, .func (.yield lp) #[] #[]), (5, .slice ao xs.length c), (6, .int .i64 xs.length), (7, .int .i64 (k : Int))]) := by rw [upds_agree hA]; exact ⟨hsz, fun _ => rfl, hdf⟩
 refine (?_ : CDI Try.prog none 3 w2 16 _ _ (upds (fun t => a2.tmps.getD t undef) [(0, .func (.yield lp) #[] #[]), (5, .slice ao xs.length c), (6, .int .i64 xs.length), (7, .int .i64 (k : Int))]) [Old w2 []]) a2 w2 ra2 (Sat.start w2)
 rw [hm]
 refine cdi_sr ?_
 refine oli_q (wn_none rfl) (op_lt rfl rfl) rfl ?_
 refine oli_nil_then ?_
 refine cdi_seq ?_
 refine cdi_cond rfl (fun hb1 => ?_) (fun hb1 => ?_)
 ·have hkl : k < xs.length := by have := of_decide_eq_true hb1; omega
  refine cdi_skip ?_
  refine pxi_then ?_
  refine cdi_seq ?_
  refine cdi_block ?_
  refine cdi_sr ?_
  refine oli_q (wn_none rfl) (op_index k sB_111 rfl rfl rfl (rn w2 [] hKb) rfl hkl) rfl ?_
  refine oli_q (wn_none rfl) (op_ldaw (L := nodeC _) ag_51 (rn w2 [] hKb) rfl hkl rfl (nodeC_ta _)) rfl ?_
  refine oli_i (wn_none rfl) (os_alloc (cs := (nodeC Node.zero).toArray) zB_51 (by kernel_rfl)) rfl ?_; rintro _ _ ⟨bx1, rfl, rfl⟩
  refine oli_iN (wn_none rfl) (os_storew (nodeC _) ag_51 rfl rfl (nodeC_len _) (nodeC_one _) (by simp [nodeC_len]) (Free.zero _)) ?_; rintro _ _ ⟨rfl, rfl⟩
  refine oli_nil_then ?_
  refine cdi_sr ?_
  refine oli_q (wn_none rfl) (op_move (v := .func _ _ _) rfl) rfl ?_
  refine oli_q (wn_none rfl) (op_lda (L := nodeC _) 0 ag_51 rfl rfl (nodeC_ta _) (by simp [nodeC_len])) rfl ?_
  refine oli_yield (lp := lp) (vs := [.agg (nodeC xs[k]).toArray]) (R := fun e W' => (e = .returned (.bool true) ∧ J (xs.take k ++ [xs[k]]) W' ∧ Kb B0 bx w W' ∧ B0 ≤ W'.heap.size) ∨ (e = .returned (.bool false) ∧ Jx (xs.take k ++ [xs[k]]) W')) rfl rfl rfl (fun w3 s3 => ?_) ?_
  ·have hg : w2.grownBy w3 none := (s3.pull 1).grown
   have hK3 : Kb B0 bx w w3 := hKb.trans (.of_grown hg hBw)
   obtain ⟨fn, tmps, assign, body, hr, hR⟩ := hY (xs.take k) xs[k] w3 (hJ _ _ _ none hJk hg (fun r e => by cases e)) (by simp; omega)
   refine ⟨fn, tmps, assign, body, hr, hR.mono ?_⟩
   rintro e W' (⟨rfl, h1, h2⟩ | ⟨rfl, h1⟩)
   ·exact .inl ⟨rfl, h1, hK3.trans h2, Nat.le_trans (Nat.le_trans hBw hg.size) h2.1⟩
   ·exact .inr ⟨rfl, h1⟩
  ·rintro e w3 (⟨rfl, hJ3, hK3, hB3⟩ | ⟨rfl, hJ3⟩)
   ·refine ⟨_, rfl, fun a3 ra3 => ?_⟩
    refine (?_ : OLI Try.prog none 3 w3 16 _ _ _ _ [Old w3 []]) a3 w3 ra3 (Sat.start w3)
    refine oli_q (wn_none rfl) (op_not rfl) rfl ?_
    refine oli_nil_then ?_
    refine cdi_cond rfl (fun hb2 => absurd hb2 (by decide)) (fun hb2 => ?_)
    refine cdi_skip ?_
    refine px_blockN ?_
    refine pxi_then ?_
    refine cdi_region ?_
    refine oli_q (wn_none rfl) (op_add rfl rfl (by omega) (by omega)) rfl ?_
    refine oli_q (wn_none rfl) (op_move (v := .int _ _) rfl) rfl ?_
    refine oli_nil ?_
    intro a4 w4 ra4 s4
    have hg4 := s4.grown
    have e7 : a4.tmps.getD 7 undef = .int .i64 ((k + 1 : Nat) : Int) := (ra4.get 7).trans (congrArg (Value.int .i64) (by simp))
    refine ⟨⟨k + 1, hkl, ra4.size, ra4.defers, (ra4.get 0).trans rfl, (ra4.get 5).trans rfl, (ra4.get 6).trans rfl, e7, ?_, hK3.trans (.of_grown hg4 hB3), Nat.le_trans hB3 s4.size⟩, ?_⟩
    ·rw [List.take_add_one, List.getElem?_eq_getElem hkl]
     exact hJ _ _ _ none hJ3 hg4 (fun r e => by cases e)
    ·have : itmp a4 7 = k + 1 := by unfold itmp; rw [e7]; simp
     rw [this]; omega
   ·refine ⟨_, rfl, fun a3 ra3 => ?_⟩
    refine (?_ : OLI Try.prog none 3 w3 16 _ _ _ _ [Old w3 []]) a3 w3 ra3 (Sat.start w3)
    refine oli_q (wn_none rfl) (op_not rfl) rfl ?_
    refine oli_nil_then ?_
    refine cdi_cond rfl (fun hb2 => ?_) (fun hb2 => absurd hb2 (by decide))
    refine cdi_ret ?_
    refine px_blockR ?_
    refine px_thenR ?_
    refine px_thenR ?_
    refine px_blockR ?_
    intro a5 w5 ra5 s5
    refine ⟨ra5.defers, _, results_none rfl _ _ _, ⟨_, rfl⟩, .inr ⟨_, trivial, hJx _ _ _ none hJ3 s5.grown (fun r e => by cases e)⟩⟩
 ·have hkl : k = xs.length := by have := of_decide_eq_false hb1; omega
  refine cdi_exit ?_
  refine px_thenE ?_
  refine px_thenE ?_
  refine px_blockE ?_
  subst hkl
  intro a5 w5 ra5 s5
  refine ⟨ra5.defers, _, results_none rfl _ _ _, ⟨_, rfl⟩, .inl ⟨_, rfl, ?_⟩⟩
  rw [List.take_length] at hJk
  exact hJ _ _ _ none hJk s5.grown (fun r e => by cases e)

set_option maxRecDepth 100000 in
set_option maxHeartbeats 1000000 in
theorem SValues_calls {w0 w : World} {l : List HProp} (ao : Option Addr) (n c : Nat) (hs : Sat w0 w (l))  :
  Calls Try.prog 55 #[.slice ao n c] w (Ret w0 fun v l' => ∃ b, v = .func (.func 79) #[] #[.pointer (some ⟨b, 0, none⟩)] ∧ l' = Blk b (.cells #[.slice ao n c] 111 (0, 0)) :: l) := by
 refine calls_enter Try.func55 rfl rfl rfl hs ?_
 refine cd_sr ?_
 refine oi (os_box (v := .slice _ _ _) rfl rfl) ?_; rintro _ _ ⟨bx1, rfl, rfl⟩
 refine oq (op_assign (v := .nilFunc) rfl) ?_
 refine ol_nil_then ?_
 refine cd_sr ?_
 refine oq (op_makefunc (F := []) (C := [_]) rfl rfl) ?_
 refine oq (op_assign (v := .func _ _ _) rfl) ?_
 refine ol_nil_then ?_
 refine cd_ret ?_
 exact px_ret1 rfl (v := .func _ _ _) rfl (fun _ s => s) ⟨_, rfl, rfl⟩

/-- between two rounds -/
def RI (W0 : World) (bx : Nat) (pre : List Node) (W : World) : Prop := ∃ ao c, Sat W0 W [Blk bx (.cells #[.slice ao (pre.map (·.root)).length c] 37 (0, 0)), Row 24 encRoot (.slice ao (pre.map (·.root)).length c) (pre.map (·.root)), Old W0 [bx]]
theorem RI_from (W0 : World) (bx : Nat) : OwnFrom W0.heap.size (RI W0 bx) := fun pre A B row ⟨ao, c, s⟩ hg hr => ⟨ao, c, s.turn (by
 intro P hP
 simp only [List.mem_cons, List.not_mem_nil, or_false] at hP
 rcases hP with rfl | rfl | rfl
 ·exact cellish_blk
 ·exact cellish_row
 ·exact cellish_old) hg hr⟩
/-- the loop's variable has come -/
def RA (W0 : World) (bx : Nat) (x : Node) (a' : Act) (W : World) : Prop := ∃ f bn, Rep 19 a' f ∧ f 3 = .pointer (some ⟨bx, 0, none⟩) ∧ f 4 = .pointer (some ⟨bn, 0, none⟩) ∧ W.heap[bn]? = some (.cells (nodeC x).toArray 51 (0, 0)) ∧ W0.heap.size ≤ bn
theorem RA_from (W0 : World) (bx : Nat) (x : Node) (a' : Act) : OwnFrom W0.heap.size (fun (_ : Unit) W => RA W0 bx x a' W) := fun _ A B row ⟨f, bn, h1, h2, h3, h4, h5⟩ hg hr => ⟨f, bn, h1, h2, h3, (hg.block bn (Array.getElem?_eq_some_iff.1 h4).1 fun e => (by
 obtain ⟨_, o, h6, h7⟩ := hr bn e.symm
 rw [h4] at h6
 cases h6
 cases h7)).trans h4, h5⟩
/-- what a round's body begins with -/
theorem RI_open {W0 W : World} {bx bn : Nat} {pre : List Node} {x : Node} (hI : RI W0 bx pre W) (hbx : bx < W0.heap.size) (hbn : W.heap[bn]? = some (.cells (nodeC x).toArray 51 (0, 0))) (hge : W0.heap.size ≤ bn) :
  ∃ ao c X, (∀ k ∈ X, k = bx ∨ W0.heap.size ≤ k) ∧ (∀ k ∈ X, ∃ cs t fr, W.heap[k]? = some (.cells cs t fr)) ∧ Sat W W [Row 24 encRoot (.slice ao (pre.map (·.root)).length c) (pre.map (·.root)), Blk bx (.cells #[.slice ao (pre.map (·.root)).length c] 37 (0, 0)), Blk bn (.cells (nodeC x).toArray 51 (0, 0)), Old W X] := by
 obtain ⟨ao, c, s⟩ := hI
 have hb1 := s.blk
 have hne : bn ≠ bx := by omega
 have s0 := (Sat.start W).take hbn (by simp)
 have s1 : Sat W W [Blk bx (.cells #[.slice ao (pre.map (·.root)).length c] 37 (0, 0)), Old W [bx, bn], Blk bn (.cells (nodeC x).toArray 51 (0, 0))] := (s0.pull 1).take hb1 (by simp; omega)
 rcases (s.pull 1).rowOpen with ⟨h1, h2, _⟩ | ⟨g, off, cap, cur, fr, h1, h2, h3, h4, h5, h6, s'⟩
 ·refine ⟨ao, c, [bx, bn], ?_, ?_, ?_⟩
  ·intro k hk; simp at hk; rcases hk with rfl | rfl
   ·exact .inl rfl
   ·exact .inr hge
  ·intro k hk; simp at hk; rcases hk with rfl | rfl
   ·exact ⟨_, _, _, hb1⟩
   ·exact ⟨_, _, _, hbn⟩
  ·have s2 := ((s1.pull 2).pull 1)
   have s3 : Sat W W [Blk bx (.cells #[.slice ao (pre.map (·.root)).length c] 37 (0, 0)), Blk bn (.cells (nodeC x).toArray 51 (0, 0)), Old W [bx, bn]] := s2
   rw [h1, h2]
   rw [h1] at s3
   exact s3.rowNil
 ·have hg := s'.blk
  have s'' : Sat W0 W [Blk g (.cells cur 24 fr), Blk bx (.cells #[.slice ao (pre.map (·.root)).length c] 37 (0, 0)), Old W0 [bx]] := s'
  have hgx : g ≠ bx := s''.ne
  have hgn : g ≠ bn := fun e => by subst e; rw [hbn] at hg; injection hg with hg; injection hg with _ h _; cases h
  have hgB : W0.heap.size ≤ g := by
   have s3 : Sat W0 W [Blk g (.cells cur 24 fr), Old W0 [bx]] := s''.del 1
   exact s3.ge_of_old (by simpa using hgx)
  have s2 : Sat W W [Blk g (.cells cur 24 fr), Old W [g, bx, bn], Blk bx (.cells #[.slice ao (pre.map (·.root)).length c] 37 (0, 0)), Blk bn (.cells (nodeC x).toArray 51 (0, 0))] := (s1.pull 1).take hg (by simp; omega)
  refine ⟨ao, c, [g, bx, bn], ?_, ?_, ?_⟩
  ·intro k hk; simp at hk; rcases hk with rfl | rfl | rfl
   ·exact .inr hgB
   ·exact .inl rfl
   ·exact .inr hge
  ·intro k hk; simp at hk; rcases hk with rfl | rfl | rfl
   ·exact ⟨_, _, _, hg⟩
   ·exact ⟨_, _, _, hb1⟩
   ·exact ⟨_, _, _, hbn⟩
  ·have s3 : Sat W W [Blk g (.cells cur 24 fr), Blk bx (.cells #[.slice ao (pre.map (·.root)).length c] 37 (0, 0)), Blk bn (.cells (nodeC x).toArray 51 (0, 0)), Old W [g, bx, bn]] := ((s2.pull 3).pull 3).pull 2
   rw [h1] at s3 ⊢
   exact s3.rowMk h6 h2 h3 h4 h5
set_option maxRecDepth 100000 in
set_option maxHeartbeats 1000000 in
theorem Roots_calls {w0 w : World} {l : List HProp} (p : Nat) (t : TreeS) (hs : Sat w0 w (TreeObj p t :: l)) :
  Calls Try.prog 20 #[.pointer (some ⟨p, 0, none⟩)] w (Ret w0 fun v l' => ∃ ao c, v = .slice ao (t.roots).length c ∧ l' = Row 24 encRoot (.slice ao (t.roots).length c) (t.roots) :: TreeObj p t :: l) := by
 obtain ⟨a1, c1, b, hw, hs⟩ := hs.treeOpen
 have hm2 := hw.m2; have hle := hw.le
 refine (callsIn_wide (n := 4)).1 ?_
 refine callsI_enterM (w0 := w0) Try.func20 rfl rfl rfl hs ?_
 refine cdi_sr ?_
 refine oli_q (wn_none rfl) (op_assign (v := .slice none 0 0) rfl) rfl ?_
 refine oli_nil_then ?_
 refine cdi_sr ?_
 refine oli_i (wn_none rfl) (os_alloc zB_37 rfl) rfl ?_; rintro _ _ ⟨bx, rfl, rfl⟩
 refine oli_nil_then ?_
 refine cdi_seq ?_
 refine cdi_sr ?_
 refine oli_q (wn_none rfl) (op_move (v := .pointer _) rfl) rfl ?_
 refine oli_q (wn_none rfl) (op_nenil Try.underlying26 rfl rfl) rfl ?_
 refine oli_nil_then ?_
 refine cdi_cond rfl (fun _ => ?_) (fun hb => absurd hb (by simp))
 refine cdi_sr ?_
 refine oli_q (wn_none rfl) (op_move (v := .pointer _) rfl) rfl ?_
 refine oli_q (wn_none rfl) (op_nilck rfl) rfl ?_
 refine oli_q (wn_none rfl) (op_field fld_114_0 rfl) rfl ?_
 refine oli_q (wn_none rfl) (op_ld 1 sc_111 rfl rfl rfl) rfl ?_
 refine oli_i (wn_none rfl) (os_call cb_55 rfl (fun w s => SValues_calls _ _ _ s)) rfl ?_; rintro _ _ ⟨bv, rfl, rfl⟩
 refine oli_nil_then ?_
 refine cdi_block ?_
 intro a W0 ra s0
 have hbv := s0.blk
 have s01 := s0.pull 1
 have hbx := s01.blk
 have hlt1 : bx < W0.heap.size := (Array.getElem?_eq_some_iff.1 hbx).1
 have hlt2 : bv < W0.heap.size := (Array.getElem?_eq_some_iff.1 hbv).1
 have hvx : bv ≠ bx := s0.ne
 have hrow := (s0.pull 3).rowCells _ _ _ rfl
 have hnx : ∀ ad, a1 = some ad → ad.block < W0.heap.size ∧ ad.block ≠ bx := by
  intro ad he
  rcases ((s0.pull 1).pull 3).rowOpen with ⟨h1, _, _⟩ | ⟨g, off, cap, cur, fr, h1, _, _, _, _, _, s'⟩
  ·injection h1 with h1; rw [h1] at he; cases he
  ·injection h1 with h1; rw [h1] at he; cases he
   exact ⟨s'.lt, s'.ne⟩
 refine wpIn_rangeFunc_ownH (F := Fence.wide) (n := 4) rfl (by decide) (gf := 79) (lb := #[.pointer (some ⟨bv, 0, none⟩)]) ((ra.get 11).trans rfl) trivial (calls_into cb_79)
  (iter_stops bv t.nodes a1 c1 W0.heap.size bx W0 (Nat.le_refl _) hlt2 hvx hbv hrow.1 (fun ad he => ⟨(hnx ad he).1, (hnx ad he).2, hrow.2 ad he⟩) (by omega))
  (fun h h' => h.trans h') (fun W lk o o' h1 _ _ _ => ⟨by simp, fun k h2 _ => World.putObj_heap_other (by omega)⟩) (RowKit.Below.refl _ _) (fun _ => rfl)
  (RI W0 bx) (fun _ _ _ => False) (RI_from W0 bx) (fun _ _ _ _ _ hf _ _ => hf) ?h0 (RA W0 bx) (RA_from W0 bx) ?assign ?body ?done ?stop
 case h0 =>
  have s1 := (Sat.start W0).take hbx (by simp)
  exact ⟨none, 0, (s1.rowNil (e := 24) (E := encRoot)).pull 1⟩
 case assign =>
  intro lp pre x W K hI hK
  have hIs : W0.heap.size ≤ W.heap.size := let ⟨_, _, s⟩ := hI; s.size
  have rp := ra.put (d := 12) rfl (.agg (nodeC x).toArray)
  refine wpIn_of_cdi (w0 := W) (l := [Old W []]) (n := 19) ⟨by simp [ra.size], fun t => by simpa [Act.put] using rp.get t, rfl⟩ (Sat.start W) ?_
  refine cdi_region ?_
  refine oli_i (wn_none rfl) (os_alloc (cs := (nodeC Node.zero).toArray) zB_51 (by kernel_rfl)) rfl ?_; rintro _ _ ⟨bn, rfl, rfl⟩
  refine oli_iN (wn_none rfl) (os_storew (nodeC _) ag_51 rfl rfl (nodeC_len _) (nodeC_one _) (by simp [nodeC_len]) (Free.zero _)) ?_; rintro _ _ ⟨rfl, rfl⟩
  refine oli_nil ?_
  intro a' W' ra' s'
  have hg := (s'.pull 1).grown
  exact hK a' W' ⟨hg.size, fun k o _ hk _ => (hg.block k (Array.getElem?_eq_some_iff.1 hk).1 (by simp)).trans hk⟩ (Kb.of_grown hg hIs) (RI_from W0 bx pre W W' none hI hg (fun r e => by cases e)) ⟨_, bn, ra', rfl, rfl, s'.blk, Nat.le_trans hIs (s'.ge_of_old (by simp))⟩
 case body =>
  rintro lp pre x a' W hl ⟨r, hr⟩ hI ⟨f, bn, ra', f3, f4, hbn, hge⟩ hlen
  obtain ⟨ao, c, X, hX1, hX2, sW⟩ := RI_open hI hlt1 hbn hge
  obtain ⟨_, _, sI⟩ := hI
  have hml : (pre.map (·.root)).length ≤ 256 := by rw [List.length_map]; omega
  have hA : Agree f [(3, .pointer (some ⟨bx, 0, none⟩)), (4, .pointer (some ⟨bn, 0, none⟩))] := ⟨f3, f4, trivial⟩
  refine wpIn_of_cdi (w0 := W) (n := 19) (f := upds f [(3, .pointer (some ⟨bx, 0, none⟩)), (4, .pointer (some ⟨bn, 0, none⟩))]) (by rw [upds_agree hA]; exact ra') sW ?_
  refine cdi_block ?_
  refine cdi_region ?_
  refine oli_q (wn_none rfl) (op_ld 1 sc_37 rfl rfl rfl) rfl ?_
  refine oli_q (wn_none rfl) (op_field fld_51_0 rfl) rfl ?_
  refine oli_q (wn_none rfl) (op_lda (L := rootC _) 2 ag_24 rfl rfl (nodeC_af0 _) (by simp [nodeC_len])) rfl ?_
  refine oli_i (wn_none rfl) (os_bslice (E := encRoot) [_] (ys := [_]) sB_37 zv_24 rfl rfl rfl rfl (by decide)) rfl ?_; rintro _ _ ⟨ao1, rfl, rfl⟩
  refine oli_i (wn_none rfl) (os_pull1 (os_append (E := encRoot) rfl sB_37 zv_24 rfl rfl rfl (fun w s => (rds_row 1 rfl rfl) [] w s) rfl (by simp only [List.length_cons, List.length_nil]; omega) (by unfold maxLen; simp only [List.length_cons, List.length_nil]; omega))) rfl ?_; rintro _ _ ⟨ao2, ac2, rfl, rfl⟩
  refine oli_iN (wn_none rfl) (os_pull2 (os_store (v := .slice _ _ _) sc_37 rfl rfl rfl rfl (Free.zero _) rfl)) ?_; rintro _ _ ⟨rfl, rfl⟩
  refine oli_nil ?_
  refine px_blockN ?_
  intro a2 W2 ra2 s2
  have sO := s2.pull 4
  have hnX : ∀ k, k < W0.heap.size → k ≠ bx → k ∉ X := fun k h1 h2 h3 => by
   rcases hX1 k h3 with h4 | h4
   ·exact h2 h4
   ·omega
  refine ⟨⟨s2.size, fun k o hB hk ho => sO.old_at (fun hkX => ?_) hk⟩, ⟨s2.size, fun k h1 h2 => ?_⟩, ao2, ac2, ?_⟩
  ·obtain ⟨cs, t', fr, h⟩ := hX2 k hkX
   rw [h] at hk; cases hk; cases ho
  ·obtain ⟨o, ho⟩ : ∃ o, W.heap[k]? = some o := ⟨_, Array.getElem?_eq_getElem (show k < W.heap.size from Nat.lt_of_lt_of_le h1 sI.size)⟩
   rw [ho]; exact sO.old_at (hnX k h1 h2) ho
  ·have e : (pre ++ [x]).map (·.root) = pre.map (·.root) ++ [x.root] := by rw [List.map_append]; rfl
   rw [e]
   exact Sat.rebase (((s2.pull 4).pull 2).pull 2) sI.os sI.tape sI.output sI.size fun k o h1 h2 => ⟨hnX k (Array.getElem?_eq_some_iff.1 h2).1 h1, (sI.pull 2).old_at (by simpa using h1) h2⟩
 case done =>
  rintro D ys W hD rfl ⟨ao, c, sI⟩ hKD
  have e1 := op_ld (P := Try.prog) (w0 := W0) (n := 19) (d := some 18) (ty := 37) (pos := "tree.go:118") (aft := #[]) (g := none) (x := .tmp 3) 0 sc_37 (l := [Blk bx (.cells #[.slice ao (t.nodes.map (fun x : Node => x.root)).length c] 37 (0, 0)), Row 24 encRoot (.slice ao (t.nodes.map (fun x : Node => x.root)).length c) (t.nodes.map (fun x : Node => x.root)), Old W0 [bx]]) rfl rfl rfl [] a W ra sI
  have r1 := ra.put (d := 18) rfl (.slice ao (t.nodes.map (fun x : Node => x.root)).length c)
  have r2 := r1.put (d := 2) rfl (.slice ao (t.nodes.map (fun x : Node => x.root)).length c)
  refine (wpIn_seq ?_ : Code.wpIn Fence.wide 4 _ (Code.seq _ _) _ _ _)
  refine wpIn_region_list ?_
  refine wpListIn_run rfl (by intro c h; cases h) e1 ?_
  refine wpListIn_run (v := .slice ao (t.nodes.map (fun x : Node => x.root)).length c) rfl (by intro c h; cases h) ?_ ?_
  ·exact congrArg (fun q => Result.ok (Next.value q) W) (r1.get 18)
  ·refine (wpIn_ret ?_ : Code.wpIn Fence.wide 4 _ .ret _ _ _)
   refine (?_ : LeavesInM Fence.wide 4 _ _ _ _ ({ target := .collected D, args := #[] } :: a.defers) .returning W)
   rw [ra.defers]
   refine ⟨by simp, .inl ⟨_, _, rfl, run_takeDeferred hKD, ?_⟩⟩
   have s4 := sI.turn (B0 := W0.heap.size) (by
    intro P hP
    simp only [List.mem_cons, List.not_mem_nil, or_false] at hP
    rcases hP with rfl | rfl | rfl
    ·exact cellish_blk
    ·exact cellish_row
    ·exact cellish_old) (grownBy_putObj' W D (.deferred none)) (fun r e => by cases e; exact ⟨hD, _, hKD, rfl⟩)
   have s5 := Sat.regain (s0.pull 1) (s4.drop)
   exact ⟨_, results_tmp rfl _ _ _, _, _, congrArg Ending.returned (r2.get 2), ⟨ao, c, rfl, rfl⟩, (Sat.treeMk hw rfl ((((s5.del 1).pull 3).pull 3).pull 3)).pull 1⟩
 case stop =>
  intro D c pre W _ _ h _
  exact h.elim
end Go.SL

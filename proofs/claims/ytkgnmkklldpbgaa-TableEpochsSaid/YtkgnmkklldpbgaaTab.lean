import Derived.Test.YtkgnmkklldpbgaaNm
import Derived.Test.YtkgnmkklldpbgaaMTab
set_option linter.unusedVariables false
set_option linter.unusedSimpArgs false
namespace Go.SL
open Go.Proofs

def VoteObj (q : Nat) (v : Vote) : HProp := Blk q (.cells (voteC v).toArray 31 (0, 0))
theorem laidOut : laidOutB Try.prog = true := by kernel_rfl
theorem keyed_mark : Go.Maps.Keyed Try.prog 96 := Go.Maps.Keyed.of_law (deep_law_laid laidOut (m := 3) (by omega) (show 96 < Try.prog.types.size from Nat.le_of_ble_eq_true (by kernel_rfl)) (by kernel_rfl) (by kernel_rfl))
def TabParts (p : Nat) (t : TabS) (a1 : Option Addr) (c1 : Nat) (a2 : Option Addr) (c2 : Nat) (b : Nat) (ps : List (Option Addr)) : List HProp :=
  [Blk p (.cells #[.int .i64 t.slots, .slice a1 ps.length c1, .slice a2 t.out.length c2, .map (some b)] 94 (0, 0)), Row 97 encPtr (.slice a1 ps.length c1) ps, Row 4 encBool (.slice a2 t.out.length c2) t.out, MapO EK2 EVR b t.first, PtrsO VoteObj ps t.latest]
/-- a table: all that it owns -/
def TabObj (p : Nat) (t : TabS) : HProp := ex fun x : Option Addr × Nat × Option Addr × Nat × Nat × List (Option Addr) => stars (pr t.WF :: TabParts p t x.1 x.2.1 x.2.2.1 x.2.2.2.1 x.2.2.2.2.1 x.2.2.2.2.2)
theorem Sat.tabOpen {w0 w : World} {l : List HProp} {p : Nat} {t : TabS} (s : Sat w0 w (TabObj p t :: l)) : ∃ a1 c1 a2 c2 b ps, t.WF ∧ ps.length = t.latest.length ∧ Sat w0 w (TabParts p t a1 c1 a2 c2 b ps ++ l) := by
  obtain ⟨⟨a1, c1, a2, c2, b, ps⟩, s⟩ := Sat.ex_iff.1 s
  have s1 := Sat.stars_iff.1 s
  obtain ⟨hw, s2⟩ := Sat.pr_iff.1 s1
  exact ⟨a1, c1, a2, c2, b, ps, hw, (s2.pull 4).ptrs_len, s2⟩
theorem Sat.tabMk {w0 w : World} {l : List HProp} {p : Nat} {t : TabS} {a1 : Option Addr} {c1 : Nat} {a2 : Option Addr} {c2 : Nat} {b : Nat} {ps : List (Option Addr)} {m1 m2 : Nat} (hw : t.WF) (h1 : m1 = ps.length) (h2 : m2 = t.out.length)
    (s : Sat w0 w (Blk p (.cells #[.int .i64 t.slots, .slice a1 m1 c1, .slice a2 m2 c2, .map (some b)] 94 (0, 0)) :: Row 97 encPtr (.slice a1 m1 c1) ps :: Row 4 encBool (.slice a2 m2 c2) t.out :: MapO EK2 EVR b t.first :: PtrsO VoteObj ps t.latest :: l)) : Sat w0 w (TabObj p t :: l) := by
  subst h1 h2
  exact Sat.ex_iff.2 ⟨(a1, c1, a2, c2, b, ps), Sat.stars_iff.2 (Sat.pr_iff.2 ⟨hw, s⟩)⟩
theorem Sat.tabWF {w0 w : World} {l : List HProp} {p : Nat} {t : TabS} (s : Sat w0 w (TabObj p t :: l)) : t.WF := let ⟨_, _, _, _, _, _, h, _⟩ := s.tabOpen; h
theorem keyok_tab {t : TabS} (hw : t.WF) {a e : Int} (ha : 0 ≤ a ∧ a < 64) (he : 0 ≤ e ∧ e ≤ 1073741824) : KeyOK Try.prog 96 EK2 t.first (a, e) :=
  keyok2 keyed_mark mk2_96 _ (by unfold I64; omega) (by unfold I64; omega) (fun p hp => by have := hw.rg p hp; unfold I64; omega) hw.nd

set_option maxRecDepth 100000 in
set_option maxHeartbeats 1000000 in
theorem is_calls {w0 w : World} {l : List HProp} (p : Nat) (sl : Int) (a1 : Option Addr) (m c1 : Nat) (x y : Value) (who : Int) (hs : Sat w0 w ((Blk p (.cells #[.int .i64 sl, .slice a1 m c1, x, y] 94 (0, 0))) :: l))  :
    Calls Try.prog 47 #[.pointer (some ⟨p, 0, none⟩), .int .i64 who] w (Ret w0 fun v l' => v = .bool (decide (0 ≤ who) && decide (who < m)) ∧ l' = Blk p (.cells #[.int .i64 sl, .slice a1 m c1, x, y] 94 (0, 0)) :: l) := by
  refine calls_enter Try.func47 rfl rfl rfl hs ?_
  refine cd_sr ?_   -- 0
  refine ol_q (wn_none rfl) (op_assign (v := .bool _) rfl) rfl ?_
  refine ol_nil_then ?_
  refine cd_sr ?_   -- 1
  refine ol_q (wn_none rfl) (op_move (v := .pointer _) rfl) rfl ?_
  refine ol_q (wn_none rfl) (op_nenil Try.underlying24 rfl rfl) rfl ?_
  refine ol_q (wn_none rfl) (op_move (v := .bool _) rfl) rfl ?_
  refine ol_q (wn_some rfl rfl rfl rfl rfl) (op_move (v := .int _ _) rfl) rfl ?_
  refine ol_q (wn_some rfl rfl rfl rfl rfl) (op_ge rfl rfl) rfl ?_
  refine ol_q (wn_none rfl) (op_pick_t (v := .bool _) rfl rfl rfl) rfl ?_
  refine ol_q (wn_none rfl) (op_move (v := .bool _) rfl) rfl ?_
  refine ol_split 11 rfl (fun hb1 => ?_) (fun hb1 => ?_)
  · have hp1 := hb1
    (try simp only [decide_eq_true_eq, decide_eq_false_iff_not, Bool.not_eq_true', Bool.not_eq_false', ne_eq, Decidable.not_not] at hp1)
    refine ol_q (wn_some rfl rfl rfl hb1 rfl) (op_move (v := .int _ _) rfl) rfl ?_
    refine ol_q (wn_some rfl rfl rfl hb1 rfl) (op_move (v := .pointer _) rfl) rfl ?_
    refine ol_q (wn_some rfl rfl rfl hb1 rfl) (op_nilck rfl) rfl ?_
    refine ol_q (wn_some rfl rfl rfl hb1 rfl) (op_field fld_94_1 rfl) rfl ?_
    refine ol_q (wn_some rfl rfl rfl hb1 rfl) (op_ld 0 sc_91 rfl rfl rfl) rfl ?_
    refine ol_q (wn_some rfl rfl rfl hb1 rfl) (op_len_slice Try.underlying91 rfl) rfl ?_
    refine ol_q (wn_some rfl rfl rfl hb1 rfl) (op_lt rfl rfl) rfl ?_
    refine ol_q (wn_none rfl) (op_pick_t (v := .bool _) rfl hb1 rfl) rfl ?_
    refine ol_q (wn_none rfl) (op_assign (v := .bool _) rfl) rfl ?_
    refine ol_nil_then ?_
    refine cd_ret ?_
    exact px_ret1 rfl (v := .bool _) rfl (fun _ s => s) ⟨congrArg Value.bool (by simp [*]), rfl⟩
  · have hp1 := hb1
    (try simp only [decide_eq_true_eq, decide_eq_false_iff_not, Bool.not_eq_true', Bool.not_eq_false', ne_eq, Decidable.not_not] at hp1)
    refine ol_skip (wn_some rfl rfl rfl hb1 rfl) rfl ?_
    refine ol_skip (wn_some rfl rfl rfl hb1 rfl) rfl ?_
    refine ol_skip (wn_some rfl rfl rfl hb1 rfl) rfl ?_
    refine ol_skip (wn_some rfl rfl rfl hb1 rfl) rfl ?_
    refine ol_skip (wn_some rfl rfl rfl hb1 rfl) rfl ?_
    refine ol_skip (wn_some rfl rfl rfl hb1 rfl) rfl ?_
    refine ol_skip (wn_some rfl rfl rfl hb1 rfl) rfl ?_
    refine ol_q (wn_none rfl) (op_pick_f (v := .bool _) rfl hb1 rfl) rfl ?_
    refine ol_q (wn_none rfl) (op_assign (v := .bool _) rfl) rfl ?_
    refine ol_nil_then ?_
    refine cd_ret ?_
    exact px_ret1 rfl (v := .bool _) rfl (fun _ s => s) ⟨congrArg Value.bool (by simp [*]), rfl⟩

set_option maxRecDepth 100000 in
set_option maxHeartbeats 1000000 in
theorem is_nil {w0 w : World} {l : List HProp} (who : Int) (hs : Sat w0 w (l))  :
    Calls Try.prog 47 #[.pointer none, .int .i64 who] w (Ret w0 fun v l' => v = .bool false ∧ l' = l) := by
  refine calls_enter Try.func47 rfl rfl rfl hs ?_
  refine cd_sr ?_   -- 0
  refine ol_q (wn_none rfl) (op_assign (v := .bool _) rfl) rfl ?_
  refine ol_nil_then ?_
  refine cd_sr ?_   -- 1
  refine ol_q (wn_none rfl) (op_move (v := .pointer _) rfl) rfl ?_
  refine ol_q (wn_none rfl) (op_nenil Try.underlying24 rfl rfl) rfl ?_
  refine ol_q (wn_none rfl) (op_move (v := .bool _) rfl) rfl ?_
  refine ol_skip (wn_some rfl rfl rfl rfl rfl) rfl ?_
  refine ol_skip (wn_some rfl rfl rfl rfl rfl) rfl ?_
  refine ol_q (wn_none rfl) (op_pick_f (v := .bool _) rfl rfl rfl) rfl ?_
  refine ol_q (wn_none rfl) (op_move (v := .bool _) rfl) rfl ?_
  refine ol_skip (wn_some rfl rfl rfl rfl rfl) rfl ?_
  refine ol_skip (wn_some rfl rfl rfl rfl rfl) rfl ?_
  refine ol_skip (wn_some rfl rfl rfl rfl rfl) rfl ?_
  refine ol_skip (wn_some rfl rfl rfl rfl rfl) rfl ?_
  refine ol_skip (wn_some rfl rfl rfl rfl rfl) rfl ?_
  refine ol_skip (wn_some rfl rfl rfl rfl rfl) rfl ?_
  refine ol_skip (wn_some rfl rfl rfl rfl rfl) rfl ?_
  refine ol_q (wn_none rfl) (op_pick_f (v := .bool _) rfl rfl rfl) rfl ?_
  refine ol_q (wn_none rfl) (op_assign (v := .bool _) rfl) rfl ?_
  refine ol_nil_then ?_
  refine cd_ret ?_
  exact px_ret1 rfl (v := .bool _) rfl (fun _ s => s) ⟨rfl, rfl⟩

set_option maxRecDepth 100000 in
theorem New_calls {w0 w : World} {l : List HProp} (n sl : Int) (hs : Sat w0 w (l))  :
    Calls Try.prog 16 #[.int .i64 n, .int .i64 sl] w (Ret w0 fun v l' => (v = .pointer none ∧ l' = l ∧ (n < 1 ∨ 64 < n ∨ sl < 1 ∨ 32 < sl)) ∨ ∃ p, v = .pointer (some ⟨p, 0, none⟩) ∧ (1 ≤ n ∧ n ≤ 64 ∧ 1 ≤ sl ∧ sl ≤ 32) ∧ l' = TabObj p (TabS.new n.toNat sl) :: l) := by
  refine calls_enter Try.func16 rfl rfl rfl hs ?_
  refine cd_sr ?_   -- 0
  refine ol_q (wn_none rfl) (op_assign (v := .pointer _) rfl) rfl ?_
  refine ol_nil_then ?_
  refine cd_seq ?_
  refine cd_sr ?_   -- 1
  refine ol_q (wn_none rfl) (op_move (v := .int _ _) rfl) rfl ?_
  refine ol_q (wn_none rfl) (op_lt rfl rfl) rfl ?_
  refine ol_q (wn_none rfl) (op_move (v := .bool _) rfl) rfl ?_
  refine ol_split 7 rfl (fun hb1 => ?_) (fun hb1 => ?_)
  · have hp1 := hb1
    (try simp only [decide_eq_true_eq, decide_eq_false_iff_not, Bool.not_eq_true', Bool.not_eq_false', ne_eq, Decidable.not_not] at hp1)
    refine ol_skip (wn_some rfl rfl rfl hb1 rfl) rfl ?_
    refine ol_skip (wn_some rfl rfl rfl hb1 rfl) rfl ?_
    refine ol_q (wn_none rfl) (op_pick_t (v := .bool _) rfl hb1 rfl) rfl ?_
    refine ol_q (wn_none rfl) (op_move (v := .bool _) rfl) rfl ?_
    refine ol_skip (wn_some rfl rfl rfl rfl rfl) rfl ?_
    refine ol_skip (wn_some rfl rfl rfl rfl rfl) rfl ?_
    refine ol_q (wn_none rfl) (op_pick_t (v := .bool _) rfl rfl rfl) rfl ?_
    refine ol_q (wn_none rfl) (op_move (v := .bool _) rfl) rfl ?_
    refine ol_skip (wn_some rfl rfl rfl rfl rfl) rfl ?_
    refine ol_skip (wn_some rfl rfl rfl rfl rfl) rfl ?_
    refine ol_q (wn_none rfl) (op_pick_t (v := .bool _) rfl rfl rfl) rfl ?_
    refine ol_nil_then ?_
    refine cd_cond_t rfl rfl ?_
    refine cd_sr ?_   -- 2
    refine ol_q (wn_none rfl) (op_assign (v := .pointer _) rfl) rfl ?_
    refine ol_nil_then ?_
    refine cd_ret ?_
    refine px_thenR ?_
    exact px_ret1 rfl (v := .pointer _) rfl (fun _ s => s) (.inl ⟨rfl, rfl, by omega⟩)
  · have hp1 := hb1
    (try simp only [decide_eq_true_eq, decide_eq_false_iff_not, Bool.not_eq_true', Bool.not_eq_false', ne_eq, Decidable.not_not] at hp1)
    refine ol_q (wn_some rfl rfl rfl hb1 rfl) (op_move (v := .int _ _) rfl) rfl ?_
    refine ol_q (wn_some rfl rfl rfl hb1 rfl) (op_gt rfl rfl) rfl ?_
    refine ol_q (wn_none rfl) (op_pick_f (v := .bool _) rfl hb1 rfl) rfl ?_
    refine ol_q (wn_none rfl) (op_move (v := .bool _) rfl) rfl ?_
    refine ol_split 11 rfl (fun hb2 => ?_) (fun hb2 => ?_)
    · have hp2 := hb2
      (try simp only [decide_eq_true_eq, decide_eq_false_iff_not, Bool.not_eq_true', Bool.not_eq_false', ne_eq, Decidable.not_not] at hp2)
      refine ol_skip (wn_some rfl rfl rfl hb2 rfl) rfl ?_
      refine ol_skip (wn_some rfl rfl rfl hb2 rfl) rfl ?_
      refine ol_q (wn_none rfl) (op_pick_t (v := .bool _) rfl hb2 rfl) rfl ?_
      refine ol_q (wn_none rfl) (op_move (v := .bool _) rfl) rfl ?_
      refine ol_skip (wn_some rfl rfl rfl rfl rfl) rfl ?_
      refine ol_skip (wn_some rfl rfl rfl rfl rfl) rfl ?_
      refine ol_q (wn_none rfl) (op_pick_t (v := .bool _) rfl rfl rfl) rfl ?_
      refine ol_nil_then ?_
      refine cd_cond_t rfl rfl ?_
      refine cd_sr ?_   -- 2
      refine ol_q (wn_none rfl) (op_assign (v := .pointer _) rfl) rfl ?_
      refine ol_nil_then ?_
      refine cd_ret ?_
      refine px_thenR ?_
      exact px_ret1 rfl (v := .pointer _) rfl (fun _ s => s) (.inl ⟨rfl, rfl, by omega⟩)
    · have hp2 := hb2
      (try simp only [decide_eq_true_eq, decide_eq_false_iff_not, Bool.not_eq_true', Bool.not_eq_false', ne_eq, Decidable.not_not] at hp2)
      refine ol_q (wn_some rfl rfl rfl hb2 rfl) (op_move (v := .int _ _) rfl) rfl ?_
      refine ol_q (wn_some rfl rfl rfl hb2 rfl) (op_lt rfl rfl) rfl ?_
      refine ol_q (wn_none rfl) (op_pick_f (v := .bool _) rfl hb2 rfl) rfl ?_
      refine ol_q (wn_none rfl) (op_move (v := .bool _) rfl) rfl ?_
      refine ol_split 15 rfl (fun hb3 => ?_) (fun hb3 => ?_)
      · have hp3 := hb3
        (try simp only [decide_eq_true_eq, decide_eq_false_iff_not, Bool.not_eq_true', Bool.not_eq_false', ne_eq, Decidable.not_not] at hp3)
        refine ol_skip (wn_some rfl rfl rfl hb3 rfl) rfl ?_
        refine ol_skip (wn_some rfl rfl rfl hb3 rfl) rfl ?_
        refine ol_q (wn_none rfl) (op_pick_t (v := .bool _) rfl hb3 rfl) rfl ?_
        refine ol_nil_then ?_
        refine cd_cond_t rfl rfl ?_
        refine cd_sr ?_   -- 2
        refine ol_q (wn_none rfl) (op_assign (v := .pointer _) rfl) rfl ?_
        refine ol_nil_then ?_
        refine cd_ret ?_
        refine px_thenR ?_
        exact px_ret1 rfl (v := .pointer _) rfl (fun _ s => s) (.inl ⟨rfl, rfl, by omega⟩)
      · have hp3 := hb3
        (try simp only [decide_eq_true_eq, decide_eq_false_iff_not, Bool.not_eq_true', Bool.not_eq_false', ne_eq, Decidable.not_not] at hp3)
        refine ol_q (wn_some rfl rfl rfl hb3 rfl) (op_move (v := .int _ _) rfl) rfl ?_
        refine ol_q (wn_some rfl rfl rfl hb3 rfl) (op_gt rfl rfl) rfl ?_
        refine ol_q (wn_none rfl) (op_pick_f (v := .bool _) rfl hb3 rfl) rfl ?_
        refine ol_nil_then ?_
        refine cd_cond rfl (fun hb4 => ?_) (fun hb4 => ?_)
        · have hp4 := hb4
          (try simp only [decide_eq_true_eq, decide_eq_false_iff_not, Bool.not_eq_true', Bool.not_eq_false', ne_eq, Decidable.not_not] at hp4)
          refine cd_sr ?_   -- 2
          refine ol_q (wn_none rfl) (op_assign (v := .pointer _) rfl) rfl ?_
          refine ol_nil_then ?_
          refine cd_ret ?_
          refine px_thenR ?_
          exact px_ret1 rfl (v := .pointer _) rfl (fun _ s => s) (.inl ⟨rfl, rfl, by omega⟩)
        · have hp4 := hb4
          (try simp only [decide_eq_true_eq, decide_eq_false_iff_not, Bool.not_eq_true', Bool.not_eq_false', ne_eq, Decidable.not_not] at hp4)
          refine cd_skip ?_
          refine px_then ?_
          refine cd_seq ?_   -- 3
          refine cd_drawe (M := []) mx [2, 4, 5, 7] ?_
          -- 0
          refine et_quiet 0 (by kernel_rfl) rfl (by kernel_rfl) (wn_none rfl) (op_move (v := .int _ _) rfl) rfl ?_
          -- 1
          refine et_quiet 1 (by kernel_rfl) rfl (by kernel_rfl) (wn_none rfl) (op_move (v := .int _ _) rfl) rfl ?_
          -- 3
          refine et_quiet 3 (by kernel_rfl) rfl (by kernel_rfl) (wn_none rfl) (op_move (v := .int _ _) rfl) rfl ?_
          refine et_3 (i1 := 2) (i2 := 4) (i3 := 5) (by kernel_rfl) ?_ ?_ ?_
          · -- 2
            refine ei_i rfl rfl (wn_none rfl) (os_make (E := encPtr) (_) (none) sB_91 zv_97 rfl rfl rfl (Int.toNat_of_nonneg (by omega)).symm (by omega) (by unfold maxLen; omega)) rfl ?_; rintro _ _ ⟨ao1, rfl, rfl⟩; refine ⟨[_], rfl, ?_⟩
            refine et_2 (i1 := 4) (i2 := 5) (by kernel_rfl) ?_ ?_
            · -- 4
              refine ei_i rfl rfl (wn_none rfl) (os_make (E := encBool) (_) (false) sB_52 zv_4 rfl rfl rfl (Int.toNat_of_nonneg (by omega)).symm (by omega) (by unfold maxLen; omega)) rfl ?_; rintro _ _ ⟨ao2, rfl, rfl⟩; refine ⟨[_, _], rfl, ?_⟩
              refine et_1 (i := 5) (by kernel_rfl) ?_
              refine ei_i rfl rfl (wn_none rfl) (os_makeMap) rfl ?_; rintro _ _ ⟨mp1, rfl, rfl⟩; refine ⟨[_, _, _], rfl, ?_⟩
              -- 6
              refine et_quiet 6 (by kernel_rfl) rfl (by kernel_rfl) (wn_none rfl) (op_build (L := [_, _, _, _]) (vs := [(0, .int _ _), (1, .slice _ _ _), (2, .slice _ _ _), (3, .map _)]) bB_94 rfl ⟨⟨rfl, rfl⟩, ⟨rfl, rfl⟩, ⟨rfl, rfl⟩, ⟨rfl, rfl⟩, trivial⟩ rfl) rfl ?_
              refine et_1 (i := 7) (by kernel_rfl) ?_
              refine ei_i rfl rfl (wn_none rfl) (os_boxa rfl) rfl ?_; rintro _ _ ⟨bx2, rfl, rfl⟩; refine ⟨[_, _, _, _], rfl, ?_⟩
              -- 8
              refine et_quiet 8 (by kernel_rfl) rfl (by kernel_rfl) (wn_none rfl) (op_assign (v := .pointer _) rfl) rfl ?_
              refine et_nil_then (by kernel_rfl) ?_
              refine cd_ret ?_
              refine px_ret1 rfl (v := .pointer _) (l' := TabObj _ (TabS.new n.toNat sl) :: l) rfl (fun _ s => ?_) (.inr ⟨_, rfl, by omega, rfl⟩)
              have s2 := Sat.head_iff (Sat.emp_cons ((Sat.pull 3 ((((s.pull 1).pull 2).pull 3).pull 3)).mapNew EK2 EVR)) (ptrs_none (F := VoteObj) n.toNat).symm
              exact Sat.tabMk (t := TabS.new n.toNat sl) (TabS.WF.new (by omega) (by omega) (by omega)) rfl rfl ((((s2.pull 1).pull 4).pull 4).pull 4)
            · -- 5
              refine ei_i rfl rfl (wn_none rfl) (os_makeMap) rfl ?_; rintro _ _ ⟨mp3, rfl, rfl⟩; refine ⟨[_, _], rfl, ?_⟩
              refine et_1 (i := 4) (by kernel_rfl) ?_
              refine ei_i rfl rfl (wn_none rfl) (os_make (E := encBool) (_) (false) sB_52 zv_4 rfl rfl rfl (Int.toNat_of_nonneg (by omega)).symm (by omega) (by unfold maxLen; omega)) rfl ?_; rintro _ _ ⟨ao3, rfl, rfl⟩; refine ⟨[_, _, _], rfl, ?_⟩
              -- 6
              refine et_quiet 6 (by kernel_rfl) rfl (by kernel_rfl) (wn_none rfl) (op_build (L := [_, _, _, _]) (vs := [(0, .int _ _), (1, .slice _ _ _), (2, .slice _ _ _), (3, .map _)]) bB_94 rfl ⟨⟨rfl, rfl⟩, ⟨rfl, rfl⟩, ⟨rfl, rfl⟩, ⟨rfl, rfl⟩, trivial⟩ rfl) rfl ?_
              refine et_1 (i := 7) (by kernel_rfl) ?_
              refine ei_i rfl rfl (wn_none rfl) (os_boxa rfl) rfl ?_; rintro _ _ ⟨bx4, rfl, rfl⟩; refine ⟨[_, _, _, _], rfl, ?_⟩
              -- 8
              refine et_quiet 8 (by kernel_rfl) rfl (by kernel_rfl) (wn_none rfl) (op_assign (v := .pointer _) rfl) rfl ?_
              refine et_nil_then (by kernel_rfl) ?_
              refine cd_ret ?_
              refine px_ret1 rfl (v := .pointer _) (l' := TabObj _ (TabS.new n.toNat sl) :: l) rfl (fun _ s => ?_) (.inr ⟨_, rfl, by omega, rfl⟩)
              have s2 := Sat.head_iff (Sat.emp_cons ((Sat.pull 3 ((((s.pull 2).pull 2).pull 3).pull 3)).mapNew EK2 EVR)) (ptrs_none (F := VoteObj) n.toNat).symm
              exact Sat.tabMk (t := TabS.new n.toNat sl) (TabS.WF.new (by omega) (by omega) (by omega)) rfl rfl ((((s2.pull 1).pull 4).pull 4).pull 4)
          · -- 4
            refine ei_i rfl rfl (wn_none rfl) (os_make (E := encBool) (_) (false) sB_52 zv_4 rfl rfl rfl (Int.toNat_of_nonneg (by omega)).symm (by omega) (by unfold maxLen; omega)) rfl ?_; rintro _ _ ⟨ao4, rfl, rfl⟩; refine ⟨[_], rfl, ?_⟩
            refine et_2 (i1 := 2) (i2 := 5) (by kernel_rfl) ?_ ?_
            · -- 2
              refine ei_i rfl rfl (wn_none rfl) (os_make (E := encPtr) (_) (none) sB_91 zv_97 rfl rfl rfl (Int.toNat_of_nonneg (by omega)).symm (by omega) (by unfold maxLen; omega)) rfl ?_; rintro _ _ ⟨ao5, rfl, rfl⟩; refine ⟨[_, _], rfl, ?_⟩
              refine et_1 (i := 5) (by kernel_rfl) ?_
              refine ei_i rfl rfl (wn_none rfl) (os_makeMap) rfl ?_; rintro _ _ ⟨mp5, rfl, rfl⟩; refine ⟨[_, _, _], rfl, ?_⟩
              -- 6
              refine et_quiet 6 (by kernel_rfl) rfl (by kernel_rfl) (wn_none rfl) (op_build (L := [_, _, _, _]) (vs := [(0, .int _ _), (1, .slice _ _ _), (2, .slice _ _ _), (3, .map _)]) bB_94 rfl ⟨⟨rfl, rfl⟩, ⟨rfl, rfl⟩, ⟨rfl, rfl⟩, ⟨rfl, rfl⟩, trivial⟩ rfl) rfl ?_
              refine et_1 (i := 7) (by kernel_rfl) ?_
              refine ei_i rfl rfl (wn_none rfl) (os_boxa rfl) rfl ?_; rintro _ _ ⟨bx6, rfl, rfl⟩; refine ⟨[_, _, _, _], rfl, ?_⟩
              -- 8
              refine et_quiet 8 (by kernel_rfl) rfl (by kernel_rfl) (wn_none rfl) (op_assign (v := .pointer _) rfl) rfl ?_
              refine et_nil_then (by kernel_rfl) ?_
              refine cd_ret ?_
              refine px_ret1 rfl (v := .pointer _) (l' := TabObj _ (TabS.new n.toNat sl) :: l) rfl (fun _ s => ?_) (.inr ⟨_, rfl, by omega, rfl⟩)
              have s2 := Sat.head_iff (Sat.emp_cons ((Sat.pull 3 ((((s.pull 1).pull 3).pull 3).pull 3)).mapNew EK2 EVR)) (ptrs_none (F := VoteObj) n.toNat).symm
              exact Sat.tabMk (t := TabS.new n.toNat sl) (TabS.WF.new (by omega) (by omega) (by omega)) rfl rfl ((((s2.pull 1).pull 4).pull 4).pull 4)
            · -- 5
              refine ei_i rfl rfl (wn_none rfl) (os_makeMap) rfl ?_; rintro _ _ ⟨mp7, rfl, rfl⟩; refine ⟨[_, _], rfl, ?_⟩
              refine et_1 (i := 2) (by kernel_rfl) ?_
              refine ei_i rfl rfl (wn_none rfl) (os_make (E := encPtr) (_) (none) sB_91 zv_97 rfl rfl rfl (Int.toNat_of_nonneg (by omega)).symm (by omega) (by unfold maxLen; omega)) rfl ?_; rintro _ _ ⟨ao6, rfl, rfl⟩; refine ⟨[_, _, _], rfl, ?_⟩
              -- 6
              refine et_quiet 6 (by kernel_rfl) rfl (by kernel_rfl) (wn_none rfl) (op_build (L := [_, _, _, _]) (vs := [(0, .int _ _), (1, .slice _ _ _), (2, .slice _ _ _), (3, .map _)]) bB_94 rfl ⟨⟨rfl, rfl⟩, ⟨rfl, rfl⟩, ⟨rfl, rfl⟩, ⟨rfl, rfl⟩, trivial⟩ rfl) rfl ?_
              refine et_1 (i := 7) (by kernel_rfl) ?_
              refine ei_i rfl rfl (wn_none rfl) (os_boxa rfl) rfl ?_; rintro _ _ ⟨bx8, rfl, rfl⟩; refine ⟨[_, _, _, _], rfl, ?_⟩
              -- 8
              refine et_quiet 8 (by kernel_rfl) rfl (by kernel_rfl) (wn_none rfl) (op_assign (v := .pointer _) rfl) rfl ?_
              refine et_nil_then (by kernel_rfl) ?_
              refine cd_ret ?_
              refine px_ret1 rfl (v := .pointer _) (l' := TabObj _ (TabS.new n.toNat sl) :: l) rfl (fun _ s => ?_) (.inr ⟨_, rfl, by omega, rfl⟩)
              have s2 := Sat.head_iff (Sat.emp_cons ((Sat.pull 3 ((((s.pull 2).pull 3).pull 3).pull 3)).mapNew EK2 EVR)) (ptrs_none (F := VoteObj) n.toNat).symm
              exact Sat.tabMk (t := TabS.new n.toNat sl) (TabS.WF.new (by omega) (by omega) (by omega)) rfl rfl ((((s2.pull 1).pull 4).pull 4).pull 4)
          · -- 5
            refine ei_i rfl rfl (wn_none rfl) (os_makeMap) rfl ?_; rintro _ _ ⟨mp9, rfl, rfl⟩; refine ⟨[_], rfl, ?_⟩
            refine et_2 (i1 := 2) (i2 := 4) (by kernel_rfl) ?_ ?_
            · -- 2
              refine ei_i rfl rfl (wn_none rfl) (os_make (E := encPtr) (_) (none) sB_91 zv_97 rfl rfl rfl (Int.toNat_of_nonneg (by omega)).symm (by omega) (by unfold maxLen; omega)) rfl ?_; rintro _ _ ⟨ao7, rfl, rfl⟩; refine ⟨[_, _], rfl, ?_⟩
              refine et_1 (i := 4) (by kernel_rfl) ?_
              refine ei_i rfl rfl (wn_none rfl) (os_make (E := encBool) (_) (false) sB_52 zv_4 rfl rfl rfl (Int.toNat_of_nonneg (by omega)).symm (by omega) (by unfold maxLen; omega)) rfl ?_; rintro _ _ ⟨ao8, rfl, rfl⟩; refine ⟨[_, _, _], rfl, ?_⟩
              -- 6
              refine et_quiet 6 (by kernel_rfl) rfl (by kernel_rfl) (wn_none rfl) (op_build (L := [_, _, _, _]) (vs := [(0, .int _ _), (1, .slice _ _ _), (2, .slice _ _ _), (3, .map _)]) bB_94 rfl ⟨⟨rfl, rfl⟩, ⟨rfl, rfl⟩, ⟨rfl, rfl⟩, ⟨rfl, rfl⟩, trivial⟩ rfl) rfl ?_
              refine et_1 (i := 7) (by kernel_rfl) ?_
              refine ei_i rfl rfl (wn_none rfl) (os_boxa rfl) rfl ?_; rintro _ _ ⟨bx10, rfl, rfl⟩; refine ⟨[_, _, _, _], rfl, ?_⟩
              -- 8
              refine et_quiet 8 (by kernel_rfl) rfl (by kernel_rfl) (wn_none rfl) (op_assign (v := .pointer _) rfl) rfl ?_
              refine et_nil_then (by kernel_rfl) ?_
              refine cd_ret ?_
              refine px_ret1 rfl (v := .pointer _) (l' := TabObj _ (TabS.new n.toNat sl) :: l) rfl (fun _ s => ?_) (.inr ⟨_, rfl, by omega, rfl⟩)
              have s2 := Sat.head_iff (Sat.emp_cons ((Sat.pull 3 ((((s.pull 3).pull 2).pull 3).pull 3)).mapNew EK2 EVR)) (ptrs_none (F := VoteObj) n.toNat).symm
              exact Sat.tabMk (t := TabS.new n.toNat sl) (TabS.WF.new (by omega) (by omega) (by omega)) rfl rfl ((((s2.pull 1).pull 4).pull 4).pull 4)
            · -- 4
              refine ei_i rfl rfl (wn_none rfl) (os_make (E := encBool) (_) (false) sB_52 zv_4 rfl rfl rfl (Int.toNat_of_nonneg (by omega)).symm (by omega) (by unfold maxLen; omega)) rfl ?_; rintro _ _ ⟨ao9, rfl, rfl⟩; refine ⟨[_, _], rfl, ?_⟩
              refine et_1 (i := 2) (by kernel_rfl) ?_
              refine ei_i rfl rfl (wn_none rfl) (os_make (E := encPtr) (_) (none) sB_91 zv_97 rfl rfl rfl (Int.toNat_of_nonneg (by omega)).symm (by omega) (by unfold maxLen; omega)) rfl ?_; rintro _ _ ⟨ao10, rfl, rfl⟩; refine ⟨[_, _, _], rfl, ?_⟩
              -- 6
              refine et_quiet 6 (by kernel_rfl) rfl (by kernel_rfl) (wn_none rfl) (op_build (L := [_, _, _, _]) (vs := [(0, .int _ _), (1, .slice _ _ _), (2, .slice _ _ _), (3, .map _)]) bB_94 rfl ⟨⟨rfl, rfl⟩, ⟨rfl, rfl⟩, ⟨rfl, rfl⟩, ⟨rfl, rfl⟩, trivial⟩ rfl) rfl ?_
              refine et_1 (i := 7) (by kernel_rfl) ?_
              refine ei_i rfl rfl (wn_none rfl) (os_boxa rfl) rfl ?_; rintro _ _ ⟨bx11, rfl, rfl⟩; refine ⟨[_, _, _, _], rfl, ?_⟩
              -- 8
              refine et_quiet 8 (by kernel_rfl) rfl (by kernel_rfl) (wn_none rfl) (op_assign (v := .pointer _) rfl) rfl ?_
              refine et_nil_then (by kernel_rfl) ?_
              refine cd_ret ?_
              refine px_ret1 rfl (v := .pointer _) (l' := TabObj _ (TabS.new n.toNat sl) :: l) rfl (fun _ s => ?_) (.inr ⟨_, rfl, by omega, rfl⟩)
              have s2 := Sat.head_iff (Sat.emp_cons ((Sat.pull 3 s).mapNew EK2 EVR)) (ptrs_none (F := VoteObj) n.toNat).symm
              exact Sat.tabMk (t := TabS.new n.toNat sl) (TabS.WF.new (by omega) (by omega) (by omega)) rfl rfl ((((s2.pull 1).pull 4).pull 4).pull 4)

set_option maxRecDepth 100000 in
theorem Take_calls {w0 w : World} {l : List HProp} (p : Nat) (t : TabS) (v : Vote) (hs : Sat w0 w ((TabObj p t) :: l))  :
    Calls Try.prog 18 #[.pointer (some ⟨p, 0, none⟩), .agg (voteC v).toArray] w (Ret w0 fun r l' => r = .int .i64 (t.take v).1 ∧ l' = TabObj p (t.take v).2 :: l) := by
  obtain ⟨a1, c1, a2, c2, b, ps, hw, hal, hs⟩ := hs.tabOpen
  unfold TabParts at hs; simp only [List.cons_append, List.nil_append] at hs
  have hs1 := hw.s1; have hs2 := hw.s2; have hn1 := hw.n1; have hlo := hw.lo
  refine calls_enter Try.func18 rfl rfl rfl hs ?_
  refine cd_sr ?_   -- 0
  refine ol_i (wn_none rfl) (os_boxa rfl) rfl ?_; rintro _ _ ⟨bx1, rfl, rfl⟩
  refine ol_q (wn_none rfl) (op_assign (v := .int _ _) rfl) rfl ?_
  refine ol_nil_then ?_
  refine cd_seq ?_
  refine cd_sr ?_   -- 1
  refine ol_q (wn_none rfl) (op_move (v := .pointer _) rfl) rfl ?_
  refine ol_q (wn_none rfl) (op_field fld_31_0 rfl) rfl ?_
  refine ol_q (wn_none rfl) (op_ld 0 sc_3 rfl rfl (voteC_a0 _)) rfl ?_
  refine ol_pull1 ?_
  refine ol_i (wn_none rfl) (os_call cb_47 rfl (fun w s => is_calls _ _ _ _ _ _ _ _  s )) rfl ?_; rintro _ _ ⟨rfl, rfl⟩
  refine ol_q (wn_none rfl) (op_not rfl) rfl ?_
  refine ol_q (wn_none rfl) (op_move (v := .bool _) rfl) rfl ?_
  refine ol_split 14 rfl (fun hb1 => ?_) (fun hb1 => ?_)
  · have hp1 := hb1
    (try simp only [decide_eq_true_eq, decide_eq_false_iff_not, Bool.not_eq_true', Bool.not_eq_false', ne_eq, Decidable.not_not] at hp1)
    have hv : t.isV v.who = false := by unfold TabS.isV; rw [← hal]; simpa only [Bool.not_eq_true'] using hb1
    refine ol_skip (wn_some rfl rfl rfl hb1 rfl) rfl ?_
    refine ol_skip (wn_some rfl rfl rfl hb1 rfl) rfl ?_
    refine ol_skip (wn_some rfl rfl rfl hb1 rfl) rfl ?_
    refine ol_q (wn_none rfl) (op_pick_t (v := .bool _) rfl hb1 rfl) rfl ?_
    refine ol_q (wn_none rfl) (op_move (v := .bool _) rfl) rfl ?_
    refine ol_skip (wn_some rfl rfl rfl rfl rfl) rfl ?_
    refine ol_skip (wn_some rfl rfl rfl rfl rfl) rfl ?_
    refine ol_skip (wn_some rfl rfl rfl rfl rfl) rfl ?_
    refine ol_q (wn_none rfl) (op_pick_t (v := .bool _) rfl rfl rfl) rfl ?_
    refine ol_nil_then ?_
    refine cd_cond_t rfl rfl ?_
    refine cd_sr ?_   -- 2
    refine ol_q (wn_none rfl) (op_assign (v := .int _ _) rfl) rfl ?_
    refine ol_nil_then ?_
    refine cd_ret ?_
    refine px_thenR ?_
    have e : t.take v = (5, t) := by unfold TabS.take; rw [if_pos (by simp [*])]
    have hw2 := hw.take v
    rw [e] at hw2 ⊢
    exact px_ret1 rfl (v := .int _ _) (l' := TabObj p t :: l) rfl (fun _ s => Sat.tabMk (t := t) hw2 (by simp) (by simp) (s.del 1)) ⟨rfl, rfl⟩
  · have hp1 := hb1
    (try simp only [decide_eq_true_eq, decide_eq_false_iff_not, Bool.not_eq_true', Bool.not_eq_false', ne_eq, Decidable.not_not] at hp1)
    have hv : t.isV v.who = true := by unfold TabS.isV; rw [← hal]; simpa only [Bool.not_eq_false'] using hb1
    obtain ⟨hv1, hv2⟩ := TabS.isV_iff.1 hv
    refine ol_q (wn_some rfl rfl rfl hb1 rfl) (op_field fld_31_1 rfl) rfl ?_
    refine ol_q (wn_some rfl rfl rfl hb1 rfl) (op_ld 1 sc_3 rfl rfl (voteC_a1 _)) rfl ?_
    refine ol_q (wn_some rfl rfl rfl hb1 rfl) (op_lt rfl rfl) rfl ?_
    refine ol_q (wn_none rfl) (op_pick_f (v := .bool _) rfl hb1 rfl) rfl ?_
    refine ol_q (wn_none rfl) (op_move (v := .bool _) rfl) rfl ?_
    refine ol_split 19 rfl (fun hb2 => ?_) (fun hb2 => ?_)
    · have hp2 := hb2
      (try simp only [decide_eq_true_eq, decide_eq_false_iff_not, Bool.not_eq_true', Bool.not_eq_false', ne_eq, Decidable.not_not] at hp2)
      have hslot := of_decide_eq_true hb2
      refine ol_skip (wn_some rfl rfl rfl hb2 rfl) rfl ?_
      refine ol_skip (wn_some rfl rfl rfl hb2 rfl) rfl ?_
      refine ol_skip (wn_some rfl rfl rfl hb2 rfl) rfl ?_
      refine ol_q (wn_none rfl) (op_pick_t (v := .bool _) rfl hb2 rfl) rfl ?_
      refine ol_nil_then ?_
      refine cd_cond_t rfl rfl ?_
      refine cd_sr ?_   -- 2
      refine ol_q (wn_none rfl) (op_assign (v := .int _ _) rfl) rfl ?_
      refine ol_nil_then ?_
      refine cd_ret ?_
      refine px_thenR ?_
      have e : t.take v = (5, t) := by unfold TabS.take; rw [if_pos (by simp [*])]
      have hw2 := hw.take v
      rw [e] at hw2 ⊢
      exact px_ret1 rfl (v := .int _ _) (l' := TabObj p t :: l) rfl (fun _ s => Sat.tabMk (t := t) hw2 (by simp) (by simp) (s.del 1)) ⟨rfl, rfl⟩
    · have hp2 := hb2
      (try simp only [decide_eq_true_eq, decide_eq_false_iff_not, Bool.not_eq_true', Bool.not_eq_false', ne_eq, Decidable.not_not] at hp2)
      have hslot := of_decide_eq_false hb2
      refine ol_q (wn_some rfl rfl rfl hb2 rfl) (op_field fld_31_1 rfl) rfl ?_
      refine ol_q (wn_some rfl rfl rfl hb2 rfl) (op_ld 1 sc_3 rfl rfl (voteC_a1 _)) rfl ?_
      refine ol_q (wn_some rfl rfl rfl hb2 rfl) (op_gt rfl rfl) rfl ?_
      refine ol_q (wn_none rfl) (op_pick_f (v := .bool _) rfl hb2 rfl) rfl ?_
      refine ol_nil_then ?_
      refine cd_cond rfl (fun hb3 => ?_) (fun hb3 => ?_)
      · have hp3 := hb3
        (try simp only [decide_eq_true_eq, decide_eq_false_iff_not, Bool.not_eq_true', Bool.not_eq_false', ne_eq, Decidable.not_not] at hp3)
        have hslot2 := of_decide_eq_true hb3
        refine cd_sr ?_   -- 2
        refine ol_q (wn_none rfl) (op_assign (v := .int _ _) rfl) rfl ?_
        refine ol_nil_then ?_
        refine cd_ret ?_
        refine px_thenR ?_
        have e : t.take v = (5, t) := by unfold TabS.take; rw [if_pos (by simp [*])]
        have hw2 := hw.take v
        rw [e] at hw2 ⊢
        exact px_ret1 rfl (v := .int _ _) (l' := TabObj p t :: l) rfl (fun _ s => Sat.tabMk (t := t) hw2 (by simp) (by simp) (s.del 1)) ⟨rfl, rfl⟩
      · have hp3 := hb3
        (try simp only [decide_eq_true_eq, decide_eq_false_iff_not, Bool.not_eq_true', Bool.not_eq_false', ne_eq, Decidable.not_not] at hp3)
        have hslot2 := of_decide_eq_false hb3
        have hcond : ¬ (t.isV v.who = false ∨ v.slot < 0 ∨ 1073741824 < v.slot) := by simp only [hv]; simp; omega
        have hep := ep_le (show 0 ≤ v.slot by omega) (show v.slot ≤ 1073741824 by omega) hs1
        refine cd_skip ?_
        refine px_then ?_
        refine cd_seq ?_
        refine cd_seq ?_   -- 3
        refine cd_draw (M := []) mx [] (by kernel_rfl) ?_
        refine rg_q (wn_none rfl) (op_move (v := .pointer _) rfl) rfl rfl ?_
        refine rg_q (wn_none rfl) (op_nilck rfl) rfl rfl ?_
        refine rg_q (wn_none rfl) (op_field fld_94_2 rfl) rfl rfl ?_
        refine rg_q (wn_none rfl) (op_ld 0 sc_52 rfl rfl rfl) rfl rfl ?_
        refine rg_q (wn_none rfl) (op_field fld_31_0 rfl) rfl rfl ?_
        refine rg_q (wn_none rfl) (op_ld 1 sc_3 rfl rfl (voteC_a0 _)) rfl rfl ?_
        refine rg_q (wn_none rfl) (op_index _ sB_52 rfl rfl (Int.toNat_of_nonneg (by omega)).symm (rds_row 3 rfl rfl) rfl (by omega)) rfl rfl ?_
        refine rg_q (wn_none rfl) (op_ldw sc_4 (rds_row 3 rfl rfl) rfl (by omega) rfl) rfl rfl ?_
        refine rg_nil_then0 ?_
        refine cd_cond rfl (fun hb4 => ?_) (fun hb4 => ?_)
        · have hp4 := hb4
          (try simp only [decide_eq_true_eq, decide_eq_false_iff_not, Bool.not_eq_true', Bool.not_eq_false', ne_eq, Decidable.not_not] at hp4)
          have ho : t.out.getD v.who.toNat false = true := by simpa [List.getD_eq_getElem?_getD, show v.who.toNat < t.out.length by omega] using hb4
          refine cd_sr ?_   -- 4
          refine ol_q (wn_none rfl) (op_assign (v := .int _ _) rfl) rfl ?_
          refine ol_nil_then ?_
          refine cd_ret ?_
          refine px_thenR ?_
          have e : t.take v = (4, t) := by unfold TabS.take; rw [if_neg hcond, if_pos ho]
          have hw2 := hw.take v
          rw [e] at hw2 ⊢
          exact px_ret1 rfl (v := .int _ _) (l' := TabObj p t :: l) rfl (fun _ s => Sat.tabMk (t := t) hw2 (by simp) (by simp) (s.del 1)) ⟨rfl, rfl⟩
        · have hp4 := hb4
          (try simp only [decide_eq_true_eq, decide_eq_false_iff_not, Bool.not_eq_true', Bool.not_eq_false', ne_eq, Decidable.not_not] at hp4)
          have ho : ¬ t.out.getD v.who.toNat false = true := by simpa [List.getD_eq_getElem?_getD, show v.who.toNat < t.out.length by omega] using hb4
          refine cd_skip ?_
          refine px_then ?_
          refine cd_seq ?_   -- 5
          refine cd_drawt (M := []) mx [10] 11 (by kernel_rfl) rfl rfl ?_
          dsimp only [List.take_succ_cons, List.take_zero, List.drop_succ_cons, List.drop_zero]
          refine rg_q (wn_none rfl) (op_field fld_31_0 rfl) rfl rfl ?_
          refine rg_q (wn_none rfl) (op_ld 1 sc_3 rfl rfl (voteC_a0 _)) rfl rfl ?_
          refine rg_q (wn_none rfl) (op_field fld_31_1 rfl) rfl rfl ?_
          refine rg_q (wn_none rfl) (op_ld 1 sc_3 rfl rfl (voteC_a1 _)) rfl rfl ?_
          refine rg_q (wn_none rfl) (op_move (v := .pointer _) rfl) rfl rfl ?_
          refine rg_q (wn_none rfl) (op_nilck rfl) rfl rfl ?_
          refine rg_q (wn_none rfl) (op_field fld_94_0 rfl) rfl rfl ?_
          refine rg_q (wn_none rfl) (op_ld 0 sc_3 rfl rfl rfl) rfl rfl ?_
          refine rg_q (wn_none rfl) (op_quo rfl rfl (by omega) (by omega) (by omega)) rfl rfl ?_
          refine rg_q (wn_none rfl) (op_build (L := [_, _]) (vs := [(0, .int _ _), (1, .int _ _)]) bB_96 rfl ⟨⟨rfl, rfl⟩, ⟨rfl, rfl⟩, trivial⟩ rfl) rfl rfl ?_
          refine rg_i (wn_none rfl) (os_alloc zB_96 rfl) rfl rfl ?_; rintro _ _ ⟨bx2, rfl, rfl⟩; refine ⟨[_], rfl, ?_⟩
          refine rg_tail1 ?_
          refine ol_iN (wn_none rfl) (os_storea (L' := [_, _]) ag_96 rfl rfl rfl (by simp [Value.oneCell']) rfl (Free.zero _) rfl) ?_; rintro _ _ ⟨rfl, rfl⟩
          refine ol_nil_then ?_
          refine cd_seq ?_
          rcases hlk : look t.first (v.who, v.slot / t.slots) with _ | r0
          ·
            refine cd_seq ?_   -- 6
            refine cd_draw (M := []) mx [9, 10] (by kernel_rfl) ?_
            refine rg_q (wn_none rfl) (op_move (v := .pointer _) rfl) rfl rfl ?_
            refine rg_q (wn_none rfl) (op_nilck rfl) rfl rfl ?_
            refine rg_q (wn_none rfl) (op_field fld_94_3 rfl) rfl rfl ?_
            refine rg_q (wn_none rfl) (op_ld 1 sc_92 rfl rfl rfl) rfl rfl ?_
            refine rg_q (wn_none rfl) (op_lda 0 ag_96 rfl rfl (by rfl) (by simp)) rfl rfl ?_
            refine rg_q (wn_none rfl) (op_lookup2N 5 (v.who, v.slot / t.slots) Try.underlying92 zBr_29 (keyok_tab hw ⟨hv1, by omega⟩ hep) hlk rfl rfl rfl) rfl rfl ?_
            refine rg_q (wn_none rfl) (op_move (v := .tuple _) rfl) rfl rfl ?_
            refine rg_q (wn_none rfl) (op_extract (v := .agg _) rfl rfl) rfl rfl ?_
            refine rg_q (wn_none rfl) (op_extract (v := .bool _) rfl rfl) rfl rfl ?_
            refine rg_i (wn_none rfl) (os_alloc (cs := (rootC Root.zero).toArray) zB_29 (by kernel_rfl)) rfl rfl ?_; rintro _ _ ⟨bx3, rfl, rfl⟩; refine ⟨[_], rfl, ?_⟩
            refine rg_iN (wn_none rfl) (os_storera _ ag_29 rfl rfl (Free.zero _)) rfl ?_; rintro _ _ ⟨rfl, rfl⟩; refine ⟨[_], rfl, ?_⟩
            refine rg_q (wn_none rfl) (op_assign (v := .bool _) rfl) rfl rfl ?_
            refine rg_nil_then1 ?_
            refine cd_sr ?_   -- 7
            refine ol_q (wn_none rfl) (op_move (v := .bool _) rfl) rfl ?_
            refine ol_nil_then ?_
            refine cd_cond_f rfl rfl ?_
            refine cd_skip ?_
            refine px_then ?_
            refine cd_seq ?_   -- 12
            refine cd_drawt (M := []) mx [] 7 (by kernel_rfl) rfl rfl ?_
            dsimp only [List.take_succ_cons, List.take_zero, List.drop_succ_cons, List.drop_zero]
            refine rg_q (wn_none rfl) (op_move (v := .pointer _) rfl) rfl rfl ?_
            refine rg_q (wn_none rfl) (op_nilck rfl) rfl rfl ?_
            refine rg_q (wn_none rfl) (op_field fld_94_3 rfl) rfl rfl ?_
            refine rg_q (wn_none rfl) (op_ld 2 sc_92 rfl rfl rfl) rfl rfl ?_
            refine rg_q (wn_none rfl) (op_lda 1 ag_96 rfl rfl (by rfl) (by simp)) rfl rfl ?_
            refine rg_q (wn_none rfl) (op_field fld_31_2 rfl) rfl rfl ?_
            refine rg_q (wn_none rfl) (op_lda (L := rootC _) 3 ag_29 rfl rfl (voteC_af2 _) (by simp [voteC_len])) rfl rfl ?_
            refine rg_tail0 ?_
            refine ol_pull6 ?_
            refine ol_iN (wn_none rfl) (os_mapUpdate (v.who, v.slot / t.slots) v.target Try.underlying92 (keyok_tab hw ⟨hv1, by omega⟩ hep) rfl rfl rfl) ?_; rintro _ _ ⟨rfl, rfl⟩
            refine ol_nil_then ?_
            refine cd_seq ?_
            refine cd_pull7 ?_
            refine cd_ptrs v.who.toNat (by omega) (fun hvq haq => ?_) (fun q u hvq haq => ?_)
            · have hlv : t.latest.getD v.who.toNat none = none := by rw [List.getD_eq_getElem?_getD, hvq]; rfl
              have hax : ps[v.who.toNat]? = _ := haq
              have hae : ps[v.who.toNat] = _ := (List.getElem_eq_iff (by omega)).2 haq
              refine cd_seq ?_   -- 13
              refine cd_draw (M := []) mx [] (by kernel_rfl) ?_
              refine rg_q (wn_none rfl) (op_move (v := .pointer _) rfl) rfl rfl ?_
              refine rg_q (wn_none rfl) (op_nilck rfl) rfl rfl ?_
              refine rg_q (wn_none rfl) (op_field fld_94_1 rfl) rfl rfl ?_
              refine rg_q (wn_none rfl) (op_ld 4 sc_91 rfl rfl rfl) rfl rfl ?_
              refine rg_q (wn_none rfl) (op_field fld_31_0 rfl) rfl rfl ?_
              refine rg_q (wn_none rfl) (op_ld 5 sc_3 rfl rfl (voteC_a0 _)) rfl rfl ?_
              refine rg_q (wn_none rfl) (op_index _ sB_91 rfl rfl (Int.toNat_of_nonneg (by omega)).symm (rds_row 6 rfl rfl) rfl (by omega)) rfl rfl ?_
              refine rg_q (wn_none rfl) (op_ldw (v := .pointer none) sc_97 (rds_row 6 rfl rfl) rfl (by omega) (congrArg (fun q => some (Value.pointer q)) hae)) rfl rfl ?_
              -- own
              refine rg_q (wn_none rfl) (op_assign (v := .pointer _) rfl) rfl rfl ?_
              refine rg_nil_then0 ?_
              refine cd_seq ?_   -- 14
              refine cd_draw (M := []) mx [] (by kernel_rfl) ?_
              refine rg_q (wn_none rfl) (op_move (v := .pointer _) rfl) rfl rfl ?_
              refine rg_q (wn_none rfl) (op_nenil Try.underlying97 rfl rfl) rfl rfl ?_
              refine rg_q (wn_none rfl) (op_move (v := .bool _) rfl) rfl rfl ?_
              refine rg_skip (wn_some rfl rfl rfl rfl rfl) rfl ?_
              refine rg_skip (wn_some rfl rfl rfl rfl rfl) rfl ?_
              refine rg_skip (wn_some rfl rfl rfl rfl rfl) rfl ?_
              refine rg_skip (wn_some rfl rfl rfl rfl rfl) rfl ?_
              refine rg_skip (wn_some rfl rfl rfl rfl rfl) rfl ?_
              refine rg_skip (wn_some rfl rfl rfl rfl rfl) rfl ?_
              refine rg_skip (wn_some rfl rfl rfl rfl rfl) rfl ?_
              refine rg_skip (wn_some rfl rfl rfl rfl rfl) rfl ?_
              refine rg_skip (wn_some rfl rfl rfl rfl rfl) rfl ?_
              refine rg_skip (wn_some rfl rfl rfl rfl rfl) rfl ?_
              refine rg_skip (wn_some rfl rfl rfl rfl rfl) rfl ?_
              refine rg_skip (wn_some rfl rfl rfl rfl rfl) rfl ?_
              refine rg_q (wn_none rfl) (op_pick_f (v := .bool _) rfl rfl rfl) rfl rfl ?_
              refine rg_nil_then0 ?_
              refine cd_cond_f rfl rfl ?_
              refine cd_skip ?_
              refine px_then ?_
              refine cd_seq ?_   -- 16
              refine cd_drawt (M := []) mx [] 7 (by kernel_rfl) rfl rfl ?_
              dsimp only [List.take_succ_cons, List.take_zero, List.drop_succ_cons, List.drop_zero]
              refine rg_q (wn_none rfl) (op_move (v := .pointer _) rfl) rfl rfl ?_
              refine rg_q (wn_none rfl) (op_nilck rfl) rfl rfl ?_
              refine rg_q (wn_none rfl) (op_field fld_94_1 rfl) rfl rfl ?_
              refine rg_q (wn_none rfl) (op_ld 4 sc_91 rfl rfl rfl) rfl rfl ?_
              refine rg_q (wn_none rfl) (op_field fld_31_0 rfl) rfl rfl ?_
              refine rg_q (wn_none rfl) (op_ld 5 sc_3 rfl rfl (voteC_a0 _)) rfl rfl ?_
              refine rg_q (wn_none rfl) (op_index _ sB_91 rfl rfl (Int.toNat_of_nonneg (by omega)).symm (rds_row 6 rfl rfl) rfl (by omega)) rfl rfl ?_
              refine rg_tail0 ?_
              refine ol_pull6 ?_
              refine ol_iN (wn_none rfl) (os_stsw  sc_97 rfl rfl rfl (by omega) rfl rfl) ?_; rintro _ _ ⟨rfl, rfl⟩
              refine ol_nil_then ?_
              refine cd_sr ?_   -- 17
              refine ol_q (wn_none rfl) (op_assign (v := .int _ _) rfl) rfl ?_
              refine ol_nil_then ?_
              refine cd_ret ?_
              have e : t.take v = (0, { t with first := ins t.first (v.who, v.slot / t.slots) v.target, latest := t.latest.set v.who.toNat (some v) }) := by unfold TabS.take; rw [if_neg hcond, if_neg ho, hlk]; simp only [hlv]
              have hw2 := hw.take v
              rw [e] at hw2 ⊢
              exact px_ret1 rfl (v := .int _ _) (l' := TabObj p { t with first := ins t.first (v.who, v.slot / t.slots) v.target, latest := t.latest.set v.who.toNat (some v) } :: l) rfl (fun _ s => Sat.tabMk (t := { t with first := ins t.first (v.who, v.slot / t.slots) v.target, latest := t.latest.set v.who.toNat (some v) }) hw2 (by simp) (by simp) (((((Sat.ptrs_put (F := VoteObj) (ps := ps) (vs := t.latest) (i := v.who.toNat) ((Sat.ptrs_del v.who.toNat ((((((((s.del 4).del 3).pull 2).pull 5).pull 2).pull 4).pull 5).pull 5) (by omega)).pull 1) (by omega) (by omega)).pull 4).pull 4).pull 4).pull 4)) ⟨rfl, rfl⟩
            · have hlv : t.latest.getD v.who.toNat none = some u := by rw [List.getD_eq_getElem?_getD, hvq]; rfl
              have hu := hw.sl u (List.mem_of_getElem? hvq)
              have hax : ps[v.who.toNat]? = _ := haq
              have hae : ps[v.who.toNat] = _ := (List.getElem_eq_iff (by omega)).2 haq
              refine cd_seq ?_   -- 13
              refine cd_draw (M := []) mx [] (by kernel_rfl) ?_
              refine rg_q (wn_none rfl) (op_move (v := .pointer _) rfl) rfl rfl ?_
              refine rg_q (wn_none rfl) (op_nilck rfl) rfl rfl ?_
              refine rg_q (wn_none rfl) (op_field fld_94_1 rfl) rfl rfl ?_
              refine rg_q (wn_none rfl) (op_ld 5 sc_91 rfl rfl rfl) rfl rfl ?_
              refine rg_q (wn_none rfl) (op_field fld_31_0 rfl) rfl rfl ?_
              refine rg_q (wn_none rfl) (op_ld 6 sc_3 rfl rfl (voteC_a0 _)) rfl rfl ?_
              refine rg_q (wn_none rfl) (op_index _ sB_91 rfl rfl (Int.toNat_of_nonneg (by omega)).symm (rds_row 7 rfl rfl) rfl (by omega)) rfl rfl ?_
              refine rg_q (wn_none rfl) (op_ldw (v := .pointer (some ⟨q, 0, none⟩)) sc_97 (rds_row 7 rfl rfl) rfl (by omega) (congrArg (fun q => some (Value.pointer q)) hae)) rfl rfl ?_
              -- own
              refine rg_q (wn_none rfl) (op_assign (v := .pointer _) rfl) rfl rfl ?_
              refine rg_nil_then0 ?_
              refine cd_seq ?_   -- 14
              refine cd_draw (M := []) mx [] (by kernel_rfl) ?_
              refine rg_q (wn_none rfl) (op_move (v := .pointer _) rfl) rfl rfl ?_
              refine rg_q (wn_none rfl) (op_nenil Try.underlying97 rfl rfl) rfl rfl ?_
              refine rg_q (wn_none rfl) (op_move (v := .bool _) rfl) rfl rfl ?_
              refine rg_q (wn_some rfl rfl rfl rfl rfl) (op_move (v := .pointer _) rfl) rfl rfl ?_
              refine rg_q (wn_some rfl rfl rfl rfl rfl) (op_nilck rfl) rfl rfl ?_
              refine rg_q (wn_some rfl rfl rfl rfl rfl) (op_field fld_31_1 rfl) rfl rfl ?_
              refine rg_q (wn_some rfl rfl rfl rfl rfl) (op_ld 0 sc_3 rfl rfl (voteC_a1 _)) rfl rfl ?_
              refine rg_q (wn_some rfl rfl rfl rfl rfl) (op_move (v := .pointer _) rfl) rfl rfl ?_
              refine rg_q (wn_some rfl rfl rfl rfl rfl) (op_nilck rfl) rfl rfl ?_
              refine rg_q (wn_some rfl rfl rfl rfl rfl) (op_field fld_94_0 rfl) rfl rfl ?_
              refine rg_q (wn_some rfl rfl rfl rfl rfl) (op_ld 5 sc_3 rfl rfl rfl) rfl rfl ?_
              refine rg_q (wn_some rfl rfl rfl rfl rfl) (op_quo rfl rfl (by omega) (by omega) (by omega)) rfl rfl ?_
              refine rg_q (wn_some rfl rfl rfl rfl rfl) (op_field fld_96_1 rfl) rfl rfl ?_
              refine rg_q (wn_some rfl rfl rfl rfl rfl) (op_ld 4 sc_3 rfl rfl rfl) rfl rfl ?_
              refine rg_q (wn_some rfl rfl rfl rfl rfl) (op_gt rfl rfl) rfl rfl ?_
              refine rg_q (wn_none rfl) (op_pick_t (v := .bool _) rfl rfl rfl) rfl rfl ?_
              refine rg_nil_then0 ?_
              refine cd_cond rfl (fun hb5 => ?_) (fun hb5 => ?_)
              · have hp5 := hb5
                (try simp only [decide_eq_true_eq, decide_eq_false_iff_not, Bool.not_eq_true', Bool.not_eq_false', ne_eq, Decidable.not_not] at hp5)
                have hlate : v.slot / t.slots < u.slot / t.slots := of_decide_eq_true hb5
                refine cd_sr ?_   -- 15
                refine ol_q (wn_none rfl) (op_assign (v := .int _ _) rfl) rfl ?_
                refine ol_nil_then ?_
                refine cd_ret ?_
                refine px_thenR ?_
                have e : t.take v = (3, { t with first := ins t.first (v.who, v.slot / t.slots) v.target }) := by unfold TabS.take; rw [if_neg hcond, if_neg ho, hlk]; simp only [hlv, if_pos hlate]
                have hw2 := hw.take v
                rw [e] at hw2 ⊢
                exact px_ret1 rfl (v := .int _ _) (l' := TabObj p { t with first := ins t.first (v.who, v.slot / t.slots) v.target } :: l) rfl (fun _ s => Sat.tabMk (t := { t with first := ins t.first (v.who, v.slot / t.slots) v.target }) hw2 (by simp) (by simp) (((((Sat.ptrs_back (F := VoteObj) (ps := ps) (vs := t.latest) (i := v.who.toNat) (((((((((s.del 6).del 4).del 3).pull 2).pull 5).pull 5).pull 5).pull 5).pull 5) hvq haq).pull 4).pull 4).pull 4).pull 4)) ⟨rfl, rfl⟩
              · have hp5 := hb5
                (try simp only [decide_eq_true_eq, decide_eq_false_iff_not, Bool.not_eq_true', Bool.not_eq_false', ne_eq, Decidable.not_not] at hp5)
                have hlate : ¬ v.slot / t.slots < u.slot / t.slots := of_decide_eq_false hb5
                refine cd_skip ?_
                refine px_then ?_
                refine cd_seq ?_   -- 16
                refine cd_drawt (M := []) mx [] 7 (by kernel_rfl) rfl rfl ?_
                dsimp only [List.take_succ_cons, List.take_zero, List.drop_succ_cons, List.drop_zero]
                refine rg_q (wn_none rfl) (op_move (v := .pointer _) rfl) rfl rfl ?_
                refine rg_q (wn_none rfl) (op_nilck rfl) rfl rfl ?_
                refine rg_q (wn_none rfl) (op_field fld_94_1 rfl) rfl rfl ?_
                refine rg_q (wn_none rfl) (op_ld 5 sc_91 rfl rfl rfl) rfl rfl ?_
                refine rg_q (wn_none rfl) (op_field fld_31_0 rfl) rfl rfl ?_
                refine rg_q (wn_none rfl) (op_ld 6 sc_3 rfl rfl (voteC_a0 _)) rfl rfl ?_
                refine rg_q (wn_none rfl) (op_index _ sB_91 rfl rfl (Int.toNat_of_nonneg (by omega)).symm (rds_row 7 rfl rfl) rfl (by omega)) rfl rfl ?_
                refine rg_tail0 ?_
                refine ol_pull7 ?_
                refine ol_iN (wn_none rfl) (os_stsw  sc_97 rfl rfl rfl (by omega) rfl rfl) ?_; rintro _ _ ⟨rfl, rfl⟩
                refine ol_nil_then ?_
                refine cd_sr ?_   -- 17
                refine ol_q (wn_none rfl) (op_assign (v := .int _ _) rfl) rfl ?_
                refine ol_nil_then ?_
                refine cd_ret ?_
                have e : t.take v = (0, { t with first := ins t.first (v.who, v.slot / t.slots) v.target, latest := t.latest.set v.who.toNat (some v) }) := by unfold TabS.take; rw [if_neg hcond, if_neg ho, hlk]; simp only [hlv, if_neg hlate]
                have hw2 := hw.take v
                rw [e] at hw2 ⊢
                exact px_ret1 rfl (v := .int _ _) (l' := TabObj p { t with first := ins t.first (v.who, v.slot / t.slots) v.target, latest := t.latest.set v.who.toNat (some v) } :: l) rfl (fun _ s => Sat.tabMk (t := { t with first := ins t.first (v.who, v.slot / t.slots) v.target, latest := t.latest.set v.who.toNat (some v) }) hw2 (by simp) (by simp) (((((Sat.ptrs_put (F := VoteObj) (ps := ps) (vs := t.latest) (i := v.who.toNat) (((((((((s.del 5).del 4).del 1).pull 2).pull 5).pull 2).pull 4).pull 4).pull 5) (by omega) (by omega)).pull 4).pull 4).pull 4).pull 4)) ⟨rfl, rfl⟩
          ·
            refine cd_seq ?_   -- 6
            refine cd_draw (M := []) mx [9, 10] (by kernel_rfl) ?_
            refine rg_q (wn_none rfl) (op_move (v := .pointer _) rfl) rfl rfl ?_
            refine rg_q (wn_none rfl) (op_nilck rfl) rfl rfl ?_
            refine rg_q (wn_none rfl) (op_field fld_94_3 rfl) rfl rfl ?_
            refine rg_q (wn_none rfl) (op_ld 1 sc_92 rfl rfl rfl) rfl rfl ?_
            refine rg_q (wn_none rfl) (op_lda 0 ag_96 rfl rfl (by rfl) (by simp)) rfl rfl ?_
            refine rg_q (wn_none rfl) (op_lookup2S 5 (v.who, v.slot / t.slots) Try.underlying92 zBr_29 (keyok_tab hw ⟨hv1, by omega⟩ hep) hlk rfl rfl rfl) rfl rfl ?_
            refine rg_q (wn_none rfl) (op_move (v := .tuple _) rfl) rfl rfl ?_
            refine rg_q (wn_none rfl) (op_extract (v := .agg _) rfl rfl) rfl rfl ?_
            refine rg_q (wn_none rfl) (op_extract (v := .bool _) rfl rfl) rfl rfl ?_
            refine rg_i (wn_none rfl) (os_alloc (cs := (rootC Root.zero).toArray) zB_29 (by kernel_rfl)) rfl rfl ?_; rintro _ _ ⟨bx4, rfl, rfl⟩; refine ⟨[_], rfl, ?_⟩
            refine rg_iN (wn_none rfl) (os_storera _ ag_29 rfl rfl (Free.zero _)) rfl ?_; rintro _ _ ⟨rfl, rfl⟩; refine ⟨[_], rfl, ?_⟩
            refine rg_q (wn_none rfl) (op_assign (v := .bool _) rfl) rfl rfl ?_
            refine rg_nil_then1 ?_
            refine cd_sr ?_   -- 7
            refine ol_q (wn_none rfl) (op_move (v := .bool _) rfl) rfl ?_
            refine ol_nil_then ?_
            refine cd_cond_t rfl rfl ?_
            refine cd_seq ?_
            refine cd_sr ?_   -- 8
            refine ol_q (wn_none rfl) (op_lda (L := rootC _) 0 ag_29 rfl rfl (rootC_take' _) (by simp [rootC_len])) rfl ?_
            refine ol_q (wn_none rfl) (op_field fld_31_2 rfl) rfl ?_
            refine ol_q (wn_none rfl) (op_lda (L := rootC _) 3 ag_29 rfl rfl (voteC_af2 _) (by simp [voteC_len])) rfl ?_
            refine ol_q (wn_none rfl) (op_eqroot _ _ rB_29 rfl rfl) rfl ?_
            refine ol_nil_then ?_
            refine cd_cond rfl (fun hb6 => ?_) (fun hb6 => ?_)
            · have hp6 := hb6
              (try simp only [decide_eq_true_eq, decide_eq_false_iff_not, Bool.not_eq_true', Bool.not_eq_false', ne_eq, Decidable.not_not] at hp6)
              have hr0 : r0 = v.target := of_decide_eq_true hb6
              refine cd_sr ?_   -- 9
              refine ol_q (wn_none rfl) (op_assign (v := .int _ _) rfl) rfl ?_
              refine ol_nil_then ?_
              refine cd_ret ?_
              refine px_thenR ?_
              refine px_thenR ?_
              have e : t.take v = (1, t) := by unfold TabS.take; rw [if_neg hcond, if_neg ho, hlk]; simp [hr0]
              have hw2 := hw.take v
              rw [e] at hw2 ⊢
              exact px_ret1 rfl (v := .int _ _) (l' := TabObj p t :: l) rfl (fun _ s => Sat.tabMk (t := t) hw2 (by simp) (by simp) (((s.del 3).del 1).del 0)) ⟨rfl, rfl⟩
            · have hp6 := hb6
              (try simp only [decide_eq_true_eq, decide_eq_false_iff_not, Bool.not_eq_true', Bool.not_eq_false', ne_eq, Decidable.not_not] at hp6)
              have hr0 : ¬ r0 = v.target := of_decide_eq_false hb6
              refine cd_skip ?_
              refine px_then ?_
              refine cd_seq ?_   -- 10
              refine cd_drawt (M := []) mx [] 7 (by kernel_rfl) rfl rfl ?_
              dsimp only [List.take_succ_cons, List.take_zero, List.drop_succ_cons, List.drop_zero]
              refine rg_q (wn_none rfl) (op_move (v := .pointer _) rfl) rfl rfl ?_
              refine rg_q (wn_none rfl) (op_nilck rfl) rfl rfl ?_
              refine rg_q (wn_none rfl) (op_field fld_94_2 rfl) rfl rfl ?_
              refine rg_q (wn_none rfl) (op_ld 2 sc_52 rfl rfl rfl) rfl rfl ?_
              refine rg_q (wn_none rfl) (op_field fld_31_0 rfl) rfl rfl ?_
              refine rg_q (wn_none rfl) (op_ld 3 sc_3 rfl rfl (voteC_a0 _)) rfl rfl ?_
              refine rg_q (wn_none rfl) (op_index _ sB_52 rfl rfl (Int.toNat_of_nonneg (by omega)).symm (rds_row 5 rfl rfl) rfl (by omega)) rfl rfl ?_
              refine rg_tail0 ?_
              refine ol_pull5 ?_
              refine ol_iN (wn_none rfl) (os_stsw  sc_4 rfl rfl rfl (by omega) rfl rfl) ?_; rintro _ _ ⟨rfl, rfl⟩
              refine ol_nil_then ?_
              refine cd_sr ?_   -- 11
              refine ol_q (wn_none rfl) (op_assign (v := .int _ _) rfl) rfl ?_
              refine ol_nil_then ?_
              refine cd_ret ?_
              refine px_thenR ?_
              have e : t.take v = (2, { t with out := t.out.set v.who.toNat true }) := by unfold TabS.take; rw [if_neg hcond, if_neg ho, hlk]; simp [hr0]
              have hw2 := hw.take v
              rw [e] at hw2 ⊢
              exact px_ret1 rfl (v := .int _ _) (l' := TabObj p { t with out := t.out.set v.who.toNat true } :: l) rfl (fun _ s => Sat.tabMk (t := { t with out := t.out.set v.who.toNat true }) hw2 (by simp) (by simp) ((((((((s.del 4).del 2).del 1).pull 4).pull 4).pull 2).pull 4).pull 4)) ⟨rfl, rfl⟩

set_option maxRecDepth 100000 in
theorem TVote_calls {w0 w : World} {l : List HProp} (p : Nat) (t : TabS) (who : Int) (hs : Sat w0 w ((TabObj p t) :: l))  :
    Calls Try.prog 21 #[.pointer (some ⟨p, 0, none⟩), .int .i64 who] w (Ret w0 fun r l' => r = .tuple #[.agg (voteC ((t.vote who).getD Vote.zero)).toArray, .bool (t.vote who).isSome] ∧ l' = TabObj p t :: l) := by
  obtain ⟨a1, c1, a2, c2, b, ps, hw, hal, hs⟩ := hs.tabOpen
  unfold TabParts at hs; simp only [List.cons_append, List.nil_append] at hs
  have hs1 := hw.s1; have hs2 := hw.s2; have hn1 := hw.n1; have hlo := hw.lo
  refine calls_enter Try.func21 rfl rfl rfl hs ?_
  refine cd_sr ?_   -- 0
  refine ol_i (wn_none rfl) (os_alloc (cs := (voteC Vote.zero).toArray) zB_31 (by kernel_rfl)) rfl ?_; rintro _ _ ⟨bx1, rfl, rfl⟩
  refine ol_q (wn_none rfl) (op_assign (v := .bool _) rfl) rfl ?_
  refine ol_nil_then ?_
  refine cd_seq ?_
  refine cd_pull5 ?_
  by_cases hv : t.isV who = true
  · obtain ⟨hv1, hv2⟩ := TabS.isV_iff.1 hv
    refine cd_ptrs who.toNat (by omega) (fun hvq haq => ?_) (fun q u hvq haq => ?_)
    · have hlv : t.vote who = none := by rw [TabS.vote_at ⟨hv1, hv2⟩, List.getD_eq_getElem?_getD, hvq]; rfl
      have hae : ps[who.toNat] = _ := (List.getElem_eq_iff (by omega)).2 haq
      refine cd_sr ?_   -- 1
      refine ol_q (wn_none rfl) (op_move (v := .pointer _) rfl) rfl ?_
      refine ol_q (wn_none rfl) (op_move (v := .int _ _) rfl) rfl ?_
      refine ol_pull2 ?_
      refine ol_i (wn_none rfl) (os_call cb_47 rfl (fun w s => is_calls _ _ _ _ _ _ _ _  s )) rfl ?_; rintro _ _ ⟨rfl, rfl⟩; have his : (decide (0 ≤ who) && decide (who < (ps.length : Int))) = t.isV who := by unfold TabS.isV; rw [hal]
      refine ol_q (wn_none rfl) (op_not rfl) rfl ?_
      refine ol_q (wn_none rfl) (op_move (v := .bool _) rfl) rfl ?_
      refine ol_split 10 rfl (fun hb1 => ?_) (fun hb1 => ?_)
      · have hp1 := hb1
        (try simp only [decide_eq_true_eq, decide_eq_false_iff_not, Bool.not_eq_true', Bool.not_eq_false', ne_eq, Decidable.not_not] at hp1)
        exact absurd hb1 (by rw [his, hv]; decide)
      · have hp1 := hb1
        (try simp only [decide_eq_true_eq, decide_eq_false_iff_not, Bool.not_eq_true', Bool.not_eq_false', ne_eq, Decidable.not_not] at hp1)
        refine ol_q (wn_some rfl rfl rfl hb1 rfl) (op_move (v := .pointer _) rfl) rfl ?_
        refine ol_q (wn_some rfl rfl rfl hb1 rfl) (op_nilck rfl) rfl ?_
        refine ol_q (wn_some rfl rfl rfl hb1 rfl) (op_field fld_94_1 rfl) rfl ?_
        refine ol_q (wn_some rfl rfl rfl hb1 rfl) (op_ld 0 sc_91 rfl rfl rfl) rfl ?_
        refine ol_q (wn_some rfl rfl rfl hb1 rfl) (op_move (v := .int _ _) rfl) rfl ?_
        refine ol_q (wn_some rfl rfl rfl hb1 rfl) (op_index _ sB_91 rfl rfl (Int.toNat_of_nonneg (by omega)).symm (rds_row 3 rfl rfl) rfl (by omega)) rfl ?_
        refine ol_q (wn_some rfl rfl rfl hb1 rfl) (op_ldw (v := .pointer none) sc_97 (rds_row 3 rfl rfl) rfl (by omega) (congrArg (fun q => some (Value.pointer q)) hae)) rfl ?_
        -- own
        refine ol_q (wn_some rfl rfl rfl hb1 rfl) (op_eqnil Try.underlying97 rfl rfl) rfl ?_
        refine ol_q (wn_none rfl) (op_pick_f (v := .bool _) rfl hb1 rfl) rfl ?_
        refine ol_nil_then ?_
        refine cd_cond_t rfl rfl ?_
        refine cd_sr ?_   -- 2
        refine ol_q (wn_none rfl) (op_build (L := voteC _) (vs := []) bB_31 rfl trivial rfl) rfl ?_
        refine ol_pull2 ?_
        refine ol_iN (wn_none rfl) (os_storew (voteC _) ag_31 rfl rfl (voteC_len _) (voteC_one _) (by simp [voteC_len]) (Free.zero _)) ?_; rintro _ _ ⟨rfl, rfl⟩
        refine ol_q (wn_none rfl) (op_assign (v := .bool _) rfl) rfl ?_
        refine ol_nil_then ?_
        refine cd_ret ?_
        refine px_thenR ?_
        rw [hlv]
        exact px_rv2 rfl (rv_cella 0 ag_31 rfl rfl (voteC_ta _) (by simp [voteC_len])) (rv_tmp (v := .bool _) rfl) (fun _ s => Sat.tabMk hw rfl rfl ((((((s.del 0).pull 1).pull 4).pull 4).pull 4).pull 4)) ⟨rfl, rfl⟩
    · have hlv : t.vote who = some u := by rw [TabS.vote_at ⟨hv1, hv2⟩, List.getD_eq_getElem?_getD, hvq]; rfl
      have hae : ps[who.toNat] = _ := (List.getElem_eq_iff (by omega)).2 haq
      refine cd_sr ?_   -- 1
      refine ol_q (wn_none rfl) (op_move (v := .pointer _) rfl) rfl ?_
      refine ol_q (wn_none rfl) (op_move (v := .int _ _) rfl) rfl ?_
      refine ol_pull3 ?_
      refine ol_i (wn_none rfl) (os_call cb_47 rfl (fun w s => is_calls _ _ _ _ _ _ _ _  s )) rfl ?_; rintro _ _ ⟨rfl, rfl⟩; have his : (decide (0 ≤ who) && decide (who < (ps.length : Int))) = t.isV who := by unfold TabS.isV; rw [hal]
      refine ol_q (wn_none rfl) (op_not rfl) rfl ?_
      refine ol_q (wn_none rfl) (op_move (v := .bool _) rfl) rfl ?_
      refine ol_split 10 rfl (fun hb2 => ?_) (fun hb2 => ?_)
      · have hp2 := hb2
        (try simp only [decide_eq_true_eq, decide_eq_false_iff_not, Bool.not_eq_true', Bool.not_eq_false', ne_eq, Decidable.not_not] at hp2)
        exact absurd hb2 (by rw [his, hv]; decide)
      · have hp2 := hb2
        (try simp only [decide_eq_true_eq, decide_eq_false_iff_not, Bool.not_eq_true', Bool.not_eq_false', ne_eq, Decidable.not_not] at hp2)
        refine ol_q (wn_some rfl rfl rfl hb2 rfl) (op_move (v := .pointer _) rfl) rfl ?_
        refine ol_q (wn_some rfl rfl rfl hb2 rfl) (op_nilck rfl) rfl ?_
        refine ol_q (wn_some rfl rfl rfl hb2 rfl) (op_field fld_94_1 rfl) rfl ?_
        refine ol_q (wn_some rfl rfl rfl hb2 rfl) (op_ld 0 sc_91 rfl rfl rfl) rfl ?_
        refine ol_q (wn_some rfl rfl rfl hb2 rfl) (op_move (v := .int _ _) rfl) rfl ?_
        refine ol_q (wn_some rfl rfl rfl hb2 rfl) (op_index _ sB_91 rfl rfl (Int.toNat_of_nonneg (by omega)).symm (rds_row 4 rfl rfl) rfl (by omega)) rfl ?_
        refine ol_q (wn_some rfl rfl rfl hb2 rfl) (op_ldw (v := .pointer (some ⟨q, 0, none⟩)) sc_97 (rds_row 4 rfl rfl) rfl (by omega) (congrArg (fun q => some (Value.pointer q)) hae)) rfl ?_
        -- own
        refine ol_q (wn_some rfl rfl rfl hb2 rfl) (op_eqnil Try.underlying97 rfl rfl) rfl ?_
        refine ol_q (wn_none rfl) (op_pick_f (v := .bool _) rfl hb2 rfl) rfl ?_
        refine ol_nil_then ?_
        refine cd_cond_f rfl rfl ?_
        refine cd_skip ?_
        refine px_then ?_
        refine cd_sr ?_   -- 3
        refine ol_q (wn_none rfl) (op_move (v := .pointer _) rfl) rfl ?_
        refine ol_q (wn_none rfl) (op_nilck rfl) rfl ?_
        refine ol_q (wn_none rfl) (op_field fld_94_1 rfl) rfl ?_
        refine ol_q (wn_none rfl) (op_ld 0 sc_91 rfl rfl rfl) rfl ?_
        refine ol_q (wn_none rfl) (op_move (v := .int _ _) rfl) rfl ?_
        refine ol_q (wn_none rfl) (op_index _ sB_91 rfl rfl (Int.toNat_of_nonneg (by omega)).symm (rds_row 4 rfl rfl) rfl (by omega)) rfl ?_
        refine ol_q (wn_none rfl) (op_ldw (v := .pointer (some ⟨q, 0, none⟩)) sc_97 (rds_row 4 rfl rfl) rfl (by omega) (congrArg (fun q => some (Value.pointer q)) hae)) rfl ?_
        -- own
        refine ol_q (wn_none rfl) (op_nilck rfl) rfl ?_
        refine ol_q (wn_none rfl) (op_lda (L := voteC _) 1 ag_31 rfl rfl (voteC_ta _) (by simp [voteC_len])) rfl ?_
        refine ol_pull3 ?_
        refine ol_iN (wn_none rfl) (os_storew (voteC _) ag_31 rfl rfl (voteC_len _) (voteC_one _) (by simp [voteC_len]) (Free.zero _)) ?_; rintro _ _ ⟨rfl, rfl⟩
        refine ol_q (wn_none rfl) (op_assign (v := .bool _) rfl) rfl ?_
        refine ol_nil_then ?_
        refine cd_ret ?_
        rw [hlv]
        exact px_rv2 rfl (rv_cella 0 ag_31 rfl rfl (voteC_ta _) (by simp [voteC_len])) (rv_tmp (v := .bool _) rfl) (fun _ s => Sat.tabMk hw rfl rfl (((((Sat.ptrs_back (F := VoteObj) (ps := ps) (vs := t.latest) (i := who.toNat) (((((((s.del 0).pull 5).pull 5).pull 5).pull 3).pull 5).pull 5) hvq haq).pull 4).pull 4).pull 4).pull 4)) ⟨rfl, rfl⟩
  · have hlv : t.vote who = none := TabS.vote_none (bool_not_true hv)
    refine cd_sr ?_   -- 1
    refine ol_q (wn_none rfl) (op_move (v := .pointer _) rfl) rfl ?_
    refine ol_q (wn_none rfl) (op_move (v := .int _ _) rfl) rfl ?_
    refine ol_pull2 ?_
    refine ol_i (wn_none rfl) (os_call cb_47 rfl (fun w s => is_calls _ _ _ _ _ _ _ _  s )) rfl ?_; rintro _ _ ⟨rfl, rfl⟩; have his : (decide (0 ≤ who) && decide (who < (ps.length : Int))) = t.isV who := by unfold TabS.isV; rw [hal]
    refine ol_q (wn_none rfl) (op_not rfl) rfl ?_
    refine ol_q (wn_none rfl) (op_move (v := .bool _) rfl) rfl ?_
    refine ol_split 10 rfl (fun hb3 => ?_) (fun hb3 => ?_)
    · have hp3 := hb3
      (try simp only [decide_eq_true_eq, decide_eq_false_iff_not, Bool.not_eq_true', Bool.not_eq_false', ne_eq, Decidable.not_not] at hp3)
      refine ol_skip (wn_some rfl rfl rfl hb3 rfl) rfl ?_
      refine ol_skip (wn_some rfl rfl rfl hb3 rfl) rfl ?_
      refine ol_skip (wn_some rfl rfl rfl hb3 rfl) rfl ?_
      refine ol_skip (wn_some rfl rfl rfl hb3 rfl) rfl ?_
      refine ol_skip (wn_some rfl rfl rfl hb3 rfl) rfl ?_
      refine ol_skip (wn_some rfl rfl rfl hb3 rfl) rfl ?_
      refine ol_skip (wn_some rfl rfl rfl hb3 rfl) rfl ?_
      refine ol_skip (wn_some rfl rfl rfl hb3 rfl) rfl ?_
      refine ol_q (wn_none rfl) (op_pick_t (v := .bool _) rfl hb3 rfl) rfl ?_
      refine ol_nil_then ?_
      refine cd_cond_t rfl rfl ?_
      refine cd_sr ?_   -- 2
      refine ol_q (wn_none rfl) (op_build (L := voteC _) (vs := []) bB_31 rfl trivial rfl) rfl ?_
      refine ol_pull2 ?_
      refine ol_iN (wn_none rfl) (os_storew (voteC _) ag_31 rfl rfl (voteC_len _) (voteC_one _) (by simp [voteC_len]) (Free.zero _)) ?_; rintro _ _ ⟨rfl, rfl⟩
      refine ol_q (wn_none rfl) (op_assign (v := .bool _) rfl) rfl ?_
      refine ol_nil_then ?_
      refine cd_ret ?_
      refine px_thenR ?_
      rw [hlv]
      exact px_rv2 rfl (rv_cella 0 ag_31 rfl rfl (voteC_ta _) (by simp [voteC_len])) (rv_tmp (v := .bool _) rfl) (fun _ s => Sat.tabMk hw rfl rfl ((((((s.del 0).pull 1).pull 4).pull 4).pull 4).pull 4)) ⟨rfl, rfl⟩
    · have hp3 := hb3
      (try simp only [decide_eq_true_eq, decide_eq_false_iff_not, Bool.not_eq_true', Bool.not_eq_false', ne_eq, Decidable.not_not] at hp3)
      exact absurd hb3 (by rw [his, bool_not_true hv]; decide)

set_option maxRecDepth 100000 in
theorem Counts_calls {w0 w : World} {l : List HProp} (p : Nat) (t : TabS) (who : Int) (hs : Sat w0 w ((TabObj p t) :: l))  :
    Calls Try.prog 19 #[.pointer (some ⟨p, 0, none⟩), .int .i64 who] w (Ret w0 fun r l' => r = .bool (t.counts who) ∧ l' = TabObj p t :: l) := by
  obtain ⟨a1, c1, a2, c2, b, ps, hw, hal, hs⟩ := hs.tabOpen
  unfold TabParts at hs; simp only [List.cons_append, List.nil_append] at hs
  have hs1 := hw.s1; have hs2 := hw.s2; have hn1 := hw.n1; have hlo := hw.lo
  refine calls_enter Try.func19 rfl rfl rfl hs ?_
  refine cd_sr ?_   -- 0
  refine ol_q (wn_none rfl) (op_assign (v := .bool _) rfl) rfl ?_
  refine ol_nil_then ?_
  refine cd_sr ?_   -- 1
  refine ol_q (wn_none rfl) (op_move (v := .pointer _) rfl) rfl ?_
  refine ol_q (wn_none rfl) (op_move (v := .int _ _) rfl) rfl ?_
  refine ol_i (wn_none rfl) (os_call cb_47 rfl (fun w s => is_calls _ _ _ _ _ _ _ _  s )) rfl ?_; rintro _ _ ⟨rfl, rfl⟩
  refine ol_q (wn_none rfl) (op_move (v := .bool _) rfl) rfl ?_
  refine ol_split 8 rfl (fun hb1 => ?_) (fun hb1 => ?_)
  · have hp1 := hb1
    (try simp only [decide_eq_true_eq, decide_eq_false_iff_not, Bool.not_eq_true', Bool.not_eq_false', ne_eq, Decidable.not_not] at hp1)
    have hv : t.isV who = true := by unfold TabS.isV; rw [← hal]; exact hb1
    obtain ⟨hv1, hv2⟩ := TabS.isV_iff.1 hv
    refine ol_q (wn_some rfl rfl rfl hb1 rfl) (op_move (v := .pointer _) rfl) rfl ?_
    refine ol_q (wn_some rfl rfl rfl hb1 rfl) (op_nilck rfl) rfl ?_
    refine ol_q (wn_some rfl rfl rfl hb1 rfl) (op_field fld_94_2 rfl) rfl ?_
    refine ol_q (wn_some rfl rfl rfl hb1 rfl) (op_ld 0 sc_52 rfl rfl rfl) rfl ?_
    refine ol_q (wn_some rfl rfl rfl hb1 rfl) (op_move (v := .int _ _) rfl) rfl ?_
    refine ol_q (wn_some rfl rfl rfl hb1 rfl) (op_index _ sB_52 rfl rfl (Int.toNat_of_nonneg (by omega)).symm (rds_row 2 rfl rfl) rfl (by omega)) rfl ?_
    refine ol_q (wn_some rfl rfl rfl hb1 rfl) (op_ldw sc_4 (rds_row 2 rfl rfl) rfl (by omega) rfl) rfl ?_
    refine ol_q (wn_some rfl rfl rfl hb1 rfl) (op_not rfl) rfl ?_
    refine ol_q (wn_none rfl) (op_pick_t (v := .bool _) rfl hb1 rfl) rfl ?_
    refine ol_q (wn_none rfl) (op_assign (v := .bool _) rfl) rfl ?_
    refine ol_nil_then ?_
    refine cd_ret ?_
    exact px_ret1 rfl (v := .bool _) (l' := TabObj p t :: l) rfl (fun _ s => Sat.tabMk hw rfl rfl s) ⟨congrArg Value.bool (by unfold TabS.counts; rw [hv]; simp [List.getD_eq_getElem?_getD, show who.toNat < t.out.length by omega]), rfl⟩
  · have hp1 := hb1
    (try simp only [decide_eq_true_eq, decide_eq_false_iff_not, Bool.not_eq_true', Bool.not_eq_false', ne_eq, Decidable.not_not] at hp1)
    have hv : t.isV who = false := by unfold TabS.isV; rw [← hal]; exact hb1
    refine ol_skip (wn_some rfl rfl rfl hb1 rfl) rfl ?_
    refine ol_skip (wn_some rfl rfl rfl hb1 rfl) rfl ?_
    refine ol_skip (wn_some rfl rfl rfl hb1 rfl) rfl ?_
    refine ol_skip (wn_some rfl rfl rfl hb1 rfl) rfl ?_
    refine ol_skip (wn_some rfl rfl rfl hb1 rfl) rfl ?_
    refine ol_skip (wn_some rfl rfl rfl hb1 rfl) rfl ?_
    refine ol_skip (wn_some rfl rfl rfl hb1 rfl) rfl ?_
    refine ol_skip (wn_some rfl rfl rfl hb1 rfl) rfl ?_
    refine ol_q (wn_none rfl) (op_pick_f (v := .bool _) rfl hb1 rfl) rfl ?_
    refine ol_q (wn_none rfl) (op_assign (v := .bool _) rfl) rfl ?_
    refine ol_nil_then ?_
    refine cd_ret ?_
    exact px_ret1 rfl (v := .bool _) (l' := TabObj p t :: l) rfl (fun _ s => Sat.tabMk hw rfl rfl s) ⟨congrArg Value.bool (by unfold TabS.counts; rw [hv]; rfl), rfl⟩

set_option maxRecDepth 100000 in
theorem Marks_calls {w0 w : World} {l : List HProp} (p : Nat) (t : TabS) (hs : Sat w0 w ((TabObj p t) :: l))  :
    Calls Try.prog 20 #[.pointer (some ⟨p, 0, none⟩)] w (Ret w0 fun r l' => r = .int .i64 t.first.length ∧ l' = TabObj p t :: l) := by
  obtain ⟨a1, c1, a2, c2, b, ps, hw, hal, hs⟩ := hs.tabOpen
  unfold TabParts at hs; simp only [List.cons_append, List.nil_append] at hs
  have hs1 := hw.s1; have hs2 := hw.s2; have hn1 := hw.n1; have hlo := hw.lo
  refine calls_enter Try.func20 rfl rfl rfl hs ?_
  refine cd_sr ?_   -- 0
  refine ol_q (wn_none rfl) (op_assign (v := .int _ _) rfl) rfl ?_
  refine ol_nil_then ?_
  refine cd_seq ?_
  refine cd_sr ?_   -- 1
  refine ol_q (wn_none rfl) (op_move (v := .pointer _) rfl) rfl ?_
  refine ol_q (wn_none rfl) (op_eqnil Try.underlying24 rfl rfl) rfl ?_
  refine ol_nil_then ?_
  refine cd_cond_f rfl rfl ?_
  refine cd_skip ?_
  refine px_then ?_
  refine cd_sr ?_   -- 3
  refine ol_q (wn_none rfl) (op_move (v := .pointer _) rfl) rfl ?_
  refine ol_q (wn_none rfl) (op_nilck rfl) rfl ?_
  refine ol_q (wn_none rfl) (op_field fld_94_3 rfl) rfl ?_
  refine ol_q (wn_none rfl) (op_ld 0 sc_92 rfl rfl rfl) rfl ?_
  refine ol_q (wn_none rfl) (op_len_map 3 Try.underlying92 rfl rfl) rfl ?_
  refine ol_q (wn_none rfl) (op_assign (v := .int _ _) rfl) rfl ?_
  refine ol_nil_then ?_
  refine cd_ret ?_
  exact px_ret1 rfl (v := .int _ _) (l' := TabObj p t :: l) rfl (fun _ s => Sat.tabMk hw rfl rfl s) ⟨rfl, rfl⟩

set_option maxRecDepth 100000 in
set_option maxHeartbeats 1000000 in
theorem Marks_nil {w0 w : World} {l : List HProp}  (hs : Sat w0 w (l))  :
    Calls Try.prog 20 #[.pointer none] w (Ret w0 fun v l' => v = .int .i64 0 ∧ l' = l) := by
  refine calls_enter Try.func20 rfl rfl rfl hs ?_
  refine cd_sr ?_   -- 0
  refine ol_q (wn_none rfl) (op_assign (v := .int _ _) rfl) rfl ?_
  refine ol_nil_then ?_
  refine cd_seq ?_
  refine cd_sr ?_   -- 1
  refine ol_q (wn_none rfl) (op_move (v := .pointer _) rfl) rfl ?_
  refine ol_q (wn_none rfl) (op_eqnil Try.underlying24 rfl rfl) rfl ?_
  refine ol_nil_then ?_
  refine cd_cond_t rfl rfl ?_
  refine cd_sr ?_   -- 2
  refine ol_q (wn_none rfl) (op_assign (v := .int _ _) rfl) rfl ?_
  refine ol_nil_then ?_
  refine cd_ret ?_
  refine px_thenR ?_
  exact px_ret1 rfl (v := .int _ _) rfl (fun _ s => s) ⟨rfl, rfl⟩

set_option maxRecDepth 100000 in
set_option maxHeartbeats 1000000 in
theorem Counts_nil {w0 w : World} {l : List HProp} (who : Int) (hs : Sat w0 w (l))  :
    Calls Try.prog 19 #[.pointer none, .int .i64 who] w (Ret w0 fun v l' => v = .bool false ∧ l' = l) := by
  refine calls_enter Try.func19 rfl rfl rfl hs ?_
  refine cd_sr ?_   -- 0
  refine ol_q (wn_none rfl) (op_assign (v := .bool _) rfl) rfl ?_
  refine ol_nil_then ?_
  refine cd_sr ?_   -- 1
  refine ol_q (wn_none rfl) (op_move (v := .pointer _) rfl) rfl ?_
  refine ol_q (wn_none rfl) (op_move (v := .int _ _) rfl) rfl ?_
  refine ol_i (wn_none rfl) (os_call cb_47 rfl (fun w s => is_nil _  s )) rfl ?_; rintro _ l ⟨rfl, rfl⟩
  refine ol_q (wn_none rfl) (op_move (v := .bool _) rfl) rfl ?_
  refine ol_skip (wn_some rfl rfl rfl rfl rfl) rfl ?_
  refine ol_skip (wn_some rfl rfl rfl rfl rfl) rfl ?_
  refine ol_skip (wn_some rfl rfl rfl rfl rfl) rfl ?_
  refine ol_skip (wn_some rfl rfl rfl rfl rfl) rfl ?_
  refine ol_skip (wn_some rfl rfl rfl rfl rfl) rfl ?_
  refine ol_skip (wn_some rfl rfl rfl rfl rfl) rfl ?_
  refine ol_skip (wn_some rfl rfl rfl rfl rfl) rfl ?_
  refine ol_skip (wn_some rfl rfl rfl rfl rfl) rfl ?_
  refine ol_q (wn_none rfl) (op_pick_f (v := .bool _) rfl rfl rfl) rfl ?_
  refine ol_q (wn_none rfl) (op_assign (v := .bool _) rfl) rfl ?_
  refine ol_nil_then ?_
  refine cd_ret ?_
  exact px_ret1 rfl (v := .bool _) rfl (fun _ s => s) ⟨rfl, rfl⟩

set_option maxRecDepth 100000 in
set_option maxHeartbeats 1000000 in
theorem TVote_nil {w0 w : World} {l : List HProp} (who : Int) (hs : Sat w0 w (l))  :
    Calls Try.prog 21 #[.pointer none, .int .i64 who] w (Ret w0 fun v l' => v = .tuple #[.agg (voteC Vote.zero).toArray, .bool false] ∧ l' = l) := by
  refine calls_enter Try.func21 rfl rfl rfl hs ?_
  refine cd_sr ?_   -- 0
  refine ol_i (wn_none rfl) (os_alloc (cs := (voteC Vote.zero).toArray) zB_31 (by kernel_rfl)) rfl ?_; rintro _ _ ⟨bx1, rfl, rfl⟩
  refine ol_q (wn_none rfl) (op_assign (v := .bool _) rfl) rfl ?_
  refine ol_nil_then ?_
  refine cd_seq ?_
  refine cd_sr ?_   -- 1
  refine ol_q (wn_none rfl) (op_move (v := .pointer _) rfl) rfl ?_
  refine ol_q (wn_none rfl) (op_move (v := .int _ _) rfl) rfl ?_
  refine ol_i (wn_none rfl) (os_call cb_47 rfl (fun w s => is_nil _  s )) rfl ?_; rintro _ l ⟨rfl, rfl⟩
  refine ol_q (wn_none rfl) (op_not rfl) rfl ?_
  refine ol_q (wn_none rfl) (op_move (v := .bool _) rfl) rfl ?_
  refine ol_skip (wn_some rfl rfl rfl rfl rfl) rfl ?_
  refine ol_skip (wn_some rfl rfl rfl rfl rfl) rfl ?_
  refine ol_skip (wn_some rfl rfl rfl rfl rfl) rfl ?_
  refine ol_skip (wn_some rfl rfl rfl rfl rfl) rfl ?_
  refine ol_skip (wn_some rfl rfl rfl rfl rfl) rfl ?_
  refine ol_skip (wn_some rfl rfl rfl rfl rfl) rfl ?_
  refine ol_skip (wn_some rfl rfl rfl rfl rfl) rfl ?_
  refine ol_skip (wn_some rfl rfl rfl rfl rfl) rfl ?_
  refine ol_q (wn_none rfl) (op_pick_t (v := .bool _) rfl rfl rfl) rfl ?_
  refine ol_nil_then ?_
  refine cd_cond_t rfl rfl ?_
  refine cd_sr ?_   -- 2
  refine ol_q (wn_none rfl) (op_build (L := voteC _) (vs := []) bB_31 rfl trivial rfl) rfl ?_
  refine ol_iN (wn_none rfl) (os_storew (voteC _) ag_31 rfl rfl (voteC_len _) (voteC_one _) (by simp [voteC_len]) (Free.zero _)) ?_; rintro _ _ ⟨rfl, rfl⟩
  refine ol_q (wn_none rfl) (op_assign (v := .bool _) rfl) rfl ?_
  refine ol_nil_then ?_
  refine cd_ret ?_
  refine px_thenR ?_
  exact px_rv2 rfl (rv_cella 0 ag_31 rfl rfl (voteC_ta _) (by simp [voteC_len])) (rv_tmp (v := .bool _) rfl) (fun _ s => (s.del 0)) ⟨rfl, rfl⟩

set_option maxRecDepth 100000 in
theorem Take_nil {w0 w : World} {l : List HProp} (v : Vote) (hs : Sat w0 w (l))  :
    Calls Try.prog 18 #[.pointer none, .agg (voteC v).toArray] w (Ret w0 fun r l' => r = .int .i64 5 ∧ l' = l) := by
  refine calls_enter Try.func18 rfl rfl rfl hs ?_
  refine cd_sr ?_   -- 0
  refine ol_i (wn_none rfl) (os_boxa rfl) rfl ?_; rintro _ _ ⟨bx1, rfl, rfl⟩
  refine ol_q (wn_none rfl) (op_assign (v := .int _ _) rfl) rfl ?_
  refine ol_nil_then ?_
  refine cd_seq ?_
  refine cd_sr ?_   -- 1
  refine ol_q (wn_none rfl) (op_move (v := .pointer _) rfl) rfl ?_
  refine ol_q (wn_none rfl) (op_field fld_31_0 rfl) rfl ?_
  refine ol_q (wn_none rfl) (op_ld 0 sc_3 rfl rfl (voteC_a0 _)) rfl ?_
  refine ol_i (wn_none rfl) (os_call cb_47 rfl (fun w s => is_nil _  s )) rfl ?_; rintro _ l ⟨rfl, rfl⟩
  refine ol_q (wn_none rfl) (op_not rfl) rfl ?_
  refine ol_q (wn_none rfl) (op_move (v := .bool _) rfl) rfl ?_
  refine ol_skip (wn_some rfl rfl rfl rfl rfl) rfl ?_
  refine ol_skip (wn_some rfl rfl rfl rfl rfl) rfl ?_
  refine ol_skip (wn_some rfl rfl rfl rfl rfl) rfl ?_
  refine ol_q (wn_none rfl) (op_pick_t (v := .bool _) rfl rfl rfl) rfl ?_
  refine ol_q (wn_none rfl) (op_move (v := .bool _) rfl) rfl ?_
  refine ol_skip (wn_some rfl rfl rfl rfl rfl) rfl ?_
  refine ol_skip (wn_some rfl rfl rfl rfl rfl) rfl ?_
  refine ol_skip (wn_some rfl rfl rfl rfl rfl) rfl ?_
  refine ol_q (wn_none rfl) (op_pick_t (v := .bool _) rfl rfl rfl) rfl ?_
  refine ol_nil_then ?_
  refine cd_cond_t rfl rfl ?_
  refine cd_sr ?_   -- 2
  refine ol_q (wn_none rfl) (op_assign (v := .int _ _) rfl) rfl ?_
  refine ol_nil_then ?_
  refine cd_ret ?_
  refine px_thenR ?_
  exact px_ret1 rfl (v := .int _ _) rfl (fun _ s => (s.del 0)) ⟨rfl, rfl⟩

set_option maxRecDepth 100000 in
set_option maxHeartbeats 1000000 in
theorem Forget_nil {w0 w : World} {l : List HProp} (slot : Int) (hs : Sat w0 w (l))  :
    Calls Try.prog 25 #[.pointer none, .int .i64 slot] w (Ret w0 fun v l' => v = .tuple #[] ∧ l' = l) := by
  refine calls_enter Try.func25 rfl rfl rfl hs ?_
  refine cd_seq ?_
  refine cd_sr ?_   -- 0
  refine ol_q (wn_none rfl) (op_move (v := .pointer _) rfl) rfl ?_
  refine ol_q (wn_none rfl) (op_eqnil Try.underlying24 rfl rfl) rfl ?_
  refine ol_q (wn_none rfl) (op_move (v := .bool _) rfl) rfl ?_
  refine ol_skip (wn_some rfl rfl rfl rfl rfl) rfl ?_
  refine ol_skip (wn_some rfl rfl rfl rfl rfl) rfl ?_
  refine ol_q (wn_none rfl) (op_pick_t (v := .bool _) rfl rfl rfl) rfl ?_
  refine ol_nil_then ?_
  refine cd_cond_t rfl rfl ?_
  refine cd_ret ?_
  refine px_thenR ?_
  exact px_ret0 rfl (fun _ s => s) ⟨rfl, rfl⟩

theorem mem_entry {es : Array MapEntry} {kvs : List ((Int × Int) × Root)} (hes : es.toList.map (fun e : MapEntry => (e.key, e.val)) = kvs.map (fun p => (EK2 p.1, EVR p.2))) {e : MapEntry} (he : e ∈ es.toList) : ∃ p : (Int × Int) × Root, p ∈ kvs ∧ e.key = EK2 p.1 ∧ e.val = EVR p.2 := by
  have h1 : (e.key, e.val) ∈ es.toList.map (fun e : MapEntry => (e.key, e.val)) := List.mem_map.2 ⟨e, he, rfl⟩
  rw [hes] at h1
  obtain ⟨p, hp, hq⟩ := List.mem_map.1 h1
  simp only [Prod.mk.injEq] at hq
  exact ⟨p, hp, hq.1.symm, hq.2.symm⟩
theorem push_contains {a : Array Nat} {x y : Nat} : (a.push x).contains y = true ↔ a.contains y = true ∨ y = x := by
  simp [Array.contains_iff_mem, Array.mem_push]
theorem unseen_lt {es : Array MapEntry} {seen : Array Nat} {e : MapEntry} (he : e ∈ es.toList) (hs : seen.contains e.born = false) :
    (es.toList.filter fun x => !(seen.push e.born).contains x.born).length < (es.toList.filter fun x => !seen.contains x.born).length := by
  have h1 : (es.toList.filter fun x => !(seen.push e.born).contains x.born) = (es.toList.filter fun x => !seen.contains x.born).filter fun x => decide (x.born ≠ e.born) := by
    rw [List.filter_filter]
    congr 1
    funext x
    rw [Bool.eq_iff_iff]
    simp [Array.mem_push, not_or, and_comm]
  rw [h1]
  have hmem : e ∈ es.toList.filter fun x => !seen.contains x.born := List.mem_filter.2 ⟨he, by rw [hs]; rfl⟩
  generalize (es.toList.filter fun x => !seen.contains x.born) = L at hmem
  clear h1 hs he
  induction L with
  | nil => cases hmem
  | cons a r ih =>
    rcases List.mem_cons.1 hmem with h | h
    · subst h
      rw [List.filter_cons_of_neg (by simp)]
      exact Nat.lt_succ_of_le (List.length_filter_le _ _)
    · by_cases ha : a.born = e.born
      · rw [List.filter_cons_of_neg (by simpa using ha)]
        exact Nat.lt_succ_of_le (List.length_filter_le _ _)
      · rw [List.filter_cons_of_pos (by simpa using ha)]
        exact Nat.succ_lt_succ (ih h)
theorem unseen_lt2 {es es2 : Array MapEntry} {seen : Array Nat} {e : MapEntry} {k : Value} (he : e ∈ es.toList) (hs : seen.contains e.born = false) (hin : ∀ x ∈ es2.toList, x ∈ es.toList ∧ x.key ≠ k) (hsub : es2.toList.Sublist es.toList) :
    (es2.toList.filter fun x => !(seen.push e.born).contains x.born).length < (es.toList.filter fun x => !seen.contains x.born).length :=
  Nat.lt_of_le_of_lt (hsub.filter _).length_le (unseen_lt he hs)
theorem filter_filter_key {V : Type} (kvs : List ((Int × Int) × V)) (k : Int × Int) (g : Int × Int → Bool) (hk : g k = false) : ((kvs.filter fun p => decide (p.1 ≠ k)).filter fun p => g p.1) = kvs.filter fun p => g p.1 := by
  rw [List.filter_filter]
  apply List.filter_congr
  intro p _
  by_cases hp : p.1 = k
  · simp [hp, hk]
  · simp [hp]

set_option maxRecDepth 100000 in
set_option maxHeartbeats 1000000 in
theorem Forget_calls {w0 w : World} {l : List HProp} (p : Nat) (t : TabS) (slot : Int) (hs : Sat w0 w ((TabObj p t) :: l)) (hs0 : slot ≤ 9223372036854775807) :
    Calls Try.prog 25 #[.pointer (some ⟨p, 0, none⟩), .int .i64 slot] w (Ret w0 fun r l' => r = .tuple #[] ∧ l' = TabObj p (t.forget slot) :: l) := by
  obtain ⟨a1, c1, a2, c2, b, ps, hw, hal, hs⟩ := hs.tabOpen
  unfold TabParts at hs; simp only [List.cons_append, List.nil_append] at hs
  have hs1 := hw.s1; have hs2 := hw.s2; have hn1 := hw.n1; have hlo := hw.lo
  refine calls_enter Try.func25 rfl rfl rfl hs ?_
  refine cd_seq ?_
  refine cd_sr ?_   -- 0
  refine ol_q (wn_none rfl) (op_move (v := .pointer _) rfl) rfl ?_
  refine ol_q (wn_none rfl) (op_eqnil Try.underlying24 rfl rfl) rfl ?_
  refine ol_q (wn_none rfl) (op_move (v := .bool _) rfl) rfl ?_
  refine ol_q (wn_some rfl rfl rfl rfl rfl) (op_move (v := .int _ _) rfl) rfl ?_
  refine ol_q (wn_some rfl rfl rfl rfl rfl) (op_lt rfl rfl) rfl ?_
  refine ol_q (wn_none rfl) (op_pick_f (v := .bool _) rfl rfl rfl) rfl ?_
  refine ol_nil_then ?_
  refine cd_cond rfl (fun hb1 => ?_) (fun hb1 => ?_)
  · have hp1 := hb1
    (try simp only [decide_eq_true_eq, decide_eq_false_iff_not, Bool.not_eq_true', Bool.not_eq_false', ne_eq, Decidable.not_not] at hp1)
    refine cd_ret ?_
    refine px_thenR ?_
    exact px_ret0 (l' := TabObj p (t.forget slot) :: l) rfl (fun _ s => by rw [show t.forget slot = t from by unfold TabS.forget; rw [if_pos (by omega)]]; exact Sat.tabMk hw rfl rfl s) ⟨rfl, rfl⟩
  · have hp1 := hb1
    (try simp only [decide_eq_true_eq, decide_eq_false_iff_not, Bool.not_eq_true', Bool.not_eq_false', ne_eq, Decidable.not_not] at hp1)
    refine cd_skip ?_
    refine px_then ?_
    refine cd_pull3 ?_
    refine cd_mapopen ?_; intro es ck hes hbn
    refine cd_sr ?_   -- 1
    refine ol_q (wn_none rfl) (op_move (v := .pointer _) rfl) rfl ?_
    refine ol_q (wn_none rfl) (op_nilck rfl) rfl ?_
    refine ol_q (wn_none rfl) (op_field fld_94_3 rfl) rfl ?_
    refine ol_q (wn_none rfl) (op_ld 1 sc_92 rfl rfl rfl) rfl ?_
    refine ol_i (wn_none rfl) (os_range Try.underlying92 rfl) rfl ?_; rintro _ _ ⟨it1, rfl, rfl⟩
    refine ol_nil_then ?_
    refine cd_block ?_
    refine cd_loop2 (α := Array MapEntry × Array Nat × List ((Int × Int) × Root)) [(4, 4), (16, 33)] (fun x => []) (fun x => Blk b (.map x.1 ck) :: Blk it1 (.mapIter (some b) ck x.2.1 ck) :: Blk p (.cells #[.int .i64 t.slots, .slice a1 ps.length c1, .slice a2 t.out.length c2, .map (some b)] 94 (0, 0)) :: Row 97 encPtr (.slice a1 ps.length c1) ps :: Row 4 encBool (.slice a2 t.out.length c2) t.out :: PtrsO VoteObj ps t.latest :: l) (fun x => x.1.toList.map (fun e : MapEntry => (e.key, e.val)) = x.2.2.map (fun p => (EK2 p.1, EVR p.2)) ∧ Born x.1 ck ∧ (x.2.2.map (·.1)).Nodup ∧ (∀ p ∈ x.2.2, p ∈ t.first) ∧ (x.2.2.filter fun p => decide (slot / t.slots ≤ p.1.2)) = (t.first.filter fun p => decide (slot / t.slots ≤ p.1.2)) ∧ (∀ e ∈ x.1.toList, x.2.1.contains e.born = true → ∀ m : Int × Int, e.key = EK2 m → slot / t.slots ≤ m.2)) (fun x => (x.1.toList.filter fun e => !x.2.1.contains e.born).length) (es, #[], t.first) ⟨hes, hbn, hw.nd, fun _ h => h, rfl, fun e _ h => by simp at h⟩ trivial (fun _ s => ((((((s.pull 5).pull 5).pull 5).pull 5).pull 4).pull 5)) ?_
    rintro ⟨es, seen, kvs⟩ ⟨hes, hbn, hnd, hsub, hfil, hsn⟩ f; dsimp only at hes hbn hnd hsub hfil hsn ⊢
    refine cd_sr ?_   -- 2
    refine ol_pull1 ?_
    refine ol_pull1 ?_
    refine ol_i (wn_none rfl) (os_next hbn rfl) rfl ?_; rintro _ _ (⟨rfl, hall, rfl⟩ | ⟨e, he, hse, rfl, rfl⟩)
    ·
      refine ol_q (wn_none rfl) (op_extract (v := .bool _) rfl rfl) rfl ?_
      refine ol_nil_then ?_
      refine cd_seq ?_
      refine cd_cond_f rfl rfl ?_
      refine cd_exit ?_
      refine px_thenE ?_
      refine px_thenE ?_
      refine px_blockE ?_
      have hwf := hw.forget slot
      have hk : kvs = t.first.filter fun p => decide (slot / t.slots ≤ p.1.2) := by
        rw [← hfil]
        refine (List.filter_eq_self.2 fun q hq => ?_).symm
        have h1 : (EK2 q.1, EVR q.2) ∈ kvs.map (fun p => (EK2 p.1, EVR p.2)) := List.mem_map.2 ⟨q, hq, rfl⟩
        rw [← hes] at h1
        obtain ⟨e, he, hee⟩ := List.mem_map.1 h1
        simp only [Prod.mk.injEq] at hee
        exact decide_eq_true (hsn e he (hall e he) _ hee.1)
      have ef : t.forget slot = { t with first := kvs } := by unfold TabS.forget; rw [if_neg (by omega), hk]
      rw [ef] at hwf ⊢
      exact px_end0 (l' := TabObj p { t with first := kvs } :: l) rfl (fun _ s => Sat.tabMk (t := { t with first := kvs }) hwf rfl rfl ((((((Sat.mapMk (EK := EK2) (EV := EVR) (kvs := kvs) (s.del 1) hbn hes).pull 4).pull 1).pull 4).pull 4).pull 4)) ⟨rfl, rfl⟩
    ·
      obtain ⟨⟨⟨ka, ke⟩, kr⟩, hmem, hek, hev⟩ := mem_entry hes he; obtain ⟨ek0, ev0, bo⟩ := e; dsimp only at hek hev hse ⊢; subst hek hev
      have hrg := hw.rg _ (hsub _ hmem); dsimp only at hrg
      refine ol_q (wn_none rfl) (op_extract (v := .bool _) rfl rfl) rfl ?_
      refine ol_nil_then ?_
      refine cd_seq ?_
      refine cd_cond_t rfl rfl ?_
      refine cd_skip ?_
      refine px_then ?_
      refine cd_block ?_
      refine cd_sr ?_   -- 3
      refine ol_q (wn_none rfl) (op_entry 0 1 ⟨EK2 (ka, ke), EVR kr, bo⟩ hbn rfl rfl rfl (by simp) he) rfl ?_
      refine ol_q (wn_none rfl) (op_extract (v := .agg _) rfl rfl) rfl ?_
      refine ol_i (wn_none rfl) (os_alloc zB_96 rfl) rfl ?_; rintro _ _ ⟨bx2, rfl, rfl⟩
      refine ol_iN (wn_none rfl) (os_storea (L' := [_, _]) ag_96 rfl rfl rfl (by simp [Value.oneCell']) rfl (Free.zero _) rfl) ?_; rintro _ _ ⟨rfl, rfl⟩
      refine ol_nil_then ?_
      refine cd_seq ?_   -- 4
      refine cd_draw (M := []) mx [] (by kernel_rfl) ?_
      refine rg_q (wn_none rfl) (op_field fld_96_1 rfl) rfl rfl ?_
      refine rg_q (wn_none rfl) (op_ld 0 sc_3 rfl rfl rfl) rfl rfl ?_
      refine rg_q (wn_none rfl) (op_move (v := .int _ _) rfl) rfl rfl ?_
      refine rg_q (wn_none rfl) (op_move (v := .pointer _) rfl) rfl rfl ?_
      refine rg_q (wn_none rfl) (op_nilck rfl) rfl rfl ?_
      refine rg_q (wn_none rfl) (op_field fld_94_0 rfl) rfl rfl ?_
      refine rg_q (wn_none rfl) (op_ld 3 sc_3 rfl rfl rfl) rfl rfl ?_
      refine rg_q (wn_none rfl) (op_quo rfl rfl (by omega) (by omega) (by omega)) rfl rfl ?_
      refine rg_q (wn_none rfl) (op_lt rfl rfl) rfl rfl ?_
      refine rg_nil_then0 ?_
      refine cd_cond rfl (fun hb2 => ?_) (fun hb2 => ?_)
      · have hp2 := hb2
        (try simp only [decide_eq_true_eq, decide_eq_false_iff_not, Bool.not_eq_true', Bool.not_eq_false', ne_eq, Decidable.not_not] at hp2)
        -- 5
        refine cd_drawt (M := []) mx [] 5 (by kernel_rfl) rfl rfl ?_
        dsimp only [List.take_succ_cons, List.take_zero, List.drop_succ_cons, List.drop_zero]
        refine rg_q (wn_none rfl) (op_move (v := .pointer _) rfl) rfl rfl ?_
        refine rg_q (wn_none rfl) (op_nilck rfl) rfl rfl ?_
        refine rg_q (wn_none rfl) (op_field fld_94_3 rfl) rfl rfl ?_
        refine rg_q (wn_none rfl) (op_ld 3 sc_92 rfl rfl rfl) rfl rfl ?_
        refine rg_q (wn_none rfl) (op_lda 0 ag_96 rfl rfl (by rfl) (by simp)) rfl rfl ?_
        refine rg_tail0 ?_
        refine ol_pull1 ?_
        refine ol_iN (wn_none rfl) (os_delete (ka, ke) rfl Try.underlying92 (keyok2 keyed_mark mk2_96 _ (by unfold I64; dsimp only; omega) (by unfold I64; dsimp only; omega) (fun p hp => by have := hw.rg p (hsub p hp); unfold I64; omega) hnd) hbn hes rfl rfl) ?_; rintro _ _ ⟨rfl, es2, rfl, he2, hbn2, hin, hsl⟩
        refine ol_nil ?_
        refine px_blockN ?_
        have hlt : ¬ slot / t.slots ≤ ke := by omega
        refine px_loop2 (es2, seen.push bo, kvs.filter fun p => decide (p.1 ≠ (ka, ke))) ⟨he2, hbn2, hnd.sublist ((List.filter_sublist (l := kvs)).map _), fun p hp => hsub p (List.mem_filter.1 hp).1, (filter_filter_key kvs (ka, ke) (fun k => decide (slot / t.slots ≤ k.2)) (by simpa using hlt)).trans hfil, fun x hx hs m hm => (push_contains.1 hs).elim (fun h => hsn x (hin x hx).1 h m hm) (fun h => absurd (congrArg MapEntry.key (born_inj hbn (hin x hx).1 he h)) (hin x hx).2)⟩ (unseen_lt2 he hse hin hsl) trivial ?_ (fun _ s => (s.del 1))
        repeat (first | exact kept_over | refine kept_upd rfl ?_ | refine kept_overS (by decide) ?_)
      · have hp2 := hb2
        (try simp only [decide_eq_true_eq, decide_eq_false_iff_not, Bool.not_eq_true', Bool.not_eq_false', ne_eq, Decidable.not_not] at hp2)
        refine cd_skip ?_
        refine px_blockN ?_
        have hge : slot / t.slots ≤ ke := by omega
        refine px_loop2 (es, seen.push bo, kvs) ⟨hes, hbn, hnd, hsub, hfil, fun x hx hs m hm => (push_contains.1 hs).elim (fun h => hsn x hx h m hm) (fun h => by have h1 := born_inj hbn hx he h; subst h1; have h2 := EK2_inj _ _ hm; subst h2; exact hge)⟩ (unseen_lt he hse) trivial ?_ (fun _ s => (s.del 0))
        repeat (first | exact kept_over | refine kept_upd rfl ?_ | refine kept_overS (by decide) ?_)
end Go.SL

import Derived.Test.YtkgnmkklldpbgaaTab
set_option linter.unusedVariables false
set_option linter.unusedSimpArgs false
namespace Go.SL
open Go.Proofs

def toFirst (p : (Int × Int) × Root) : First := ⟨p.1.1, p.1.2, p.2⟩
structure RTabOf (t : TabS) (N : Nat) (F : List First) (Lv : List Vote) (Hs Ou : List Bool) : Prop where
  n : N = t.latest.length
  f : F = t.first.map toFirst
  l : Lv = t.latest.map fun o => o.getD Vote.zero
  h : Hs = t.latest.map fun o => o.isSome
  o : Ou = t.out
/-- the reference's table: all that it owns -/
def RTabObj (p : Nat) (t : TabS) : HProp := ex fun x : (Option Addr × Nat × Option Addr × Nat) × (Option Addr × Nat × Option Addr × Nat) × (Nat × List First × List Vote × List Bool × List Bool) =>
  match x with
  | ((a1, c1, a2, c2), (a3, c3, a4, c4), (N, F, Lv, Hs, Ou)) => stars (pr (t.WF ∧ RTabOf t N F Lv Hs Ou) :: Blk p (.cells #[.int .i64 (N : Int), .int .i64 t.slots, .slice a1 F.length c1, .slice a2 Lv.length c2, .slice a3 Hs.length c3, .slice a4 Ou.length c4] 100 (0, 0)) :: Row 102 encFirst (.slice a1 F.length c1) F :: Row 31 encVote (.slice a2 Lv.length c2) Lv :: Row 4 encBool (.slice a3 Hs.length c3) Hs :: Row 4 encBool (.slice a4 Ou.length c4) Ou :: [])
theorem Sat.rtabOpen {w0 w : World} {l : List HProp} {p : Nat} {t : TabS} (s : Sat w0 w (RTabObj p t :: l)) : ∃ a1 c1 a2 c2 a3 c3 a4 c4 N F Lv Hs Ou, t.WF ∧ RTabOf t N F Lv Hs Ou ∧ Sat w0 w (Blk p (.cells #[.int .i64 (N : Int), .int .i64 t.slots, .slice a1 F.length c1, .slice a2 Lv.length c2, .slice a3 Hs.length c3, .slice a4 Ou.length c4] 100 (0, 0)) :: Row 102 encFirst (.slice a1 F.length c1) F :: Row 31 encVote (.slice a2 Lv.length c2) Lv :: Row 4 encBool (.slice a3 Hs.length c3) Hs :: Row 4 encBool (.slice a4 Ou.length c4) Ou :: l) := by
  obtain ⟨⟨⟨a1, c1, a2, c2⟩, ⟨a3, c3, a4, c4⟩, ⟨N, F, Lv, Hs, Ou⟩⟩, s⟩ := Sat.ex_iff.1 s
  have s1 := Sat.stars_iff.1 s
  obtain ⟨hw, s2⟩ := Sat.pr_iff.1 s1
  exact ⟨a1, c1, a2, c2, a3, c3, a4, c4, N, F, Lv, Hs, Ou, hw.1, hw.2, s2⟩
theorem Sat.rtabMk {w0 w : World} {l : List HProp} {p : Nat} {t : TabS} {a1 a2 a3 a4 : Option Addr} {c1 c2 c3 c4 N m1 m2 m3 m4 : Nat} {F : List First} {Lv : List Vote} {Hs Ou : List Bool} (hw : t.WF) (hr : RTabOf t N F Lv Hs Ou)
    (h1 : m1 = F.length) (h2 : m2 = Lv.length) (h3 : m3 = Hs.length) (h4 : m4 = Ou.length) (s : Sat w0 w (Blk p (.cells #[.int .i64 (N : Int), .int .i64 t.slots, .slice a1 m1 c1, .slice a2 m2 c2, .slice a3 m3 c3, .slice a4 m4 c4] 100 (0, 0)) :: Row 102 encFirst (.slice a1 m1 c1) F :: Row 31 encVote (.slice a2 m2 c2) Lv :: Row 4 encBool (.slice a3 m3 c3) Hs :: Row 4 encBool (.slice a4 m4 c4) Ou :: l)) : Sat w0 w (RTabObj p t :: l) := by
  subst h1 h2 h3 h4
  exact Sat.ex_iff.2 ⟨((a1, c1, a2, c2), (a3, c3, a4, c4), (N, F, Lv, Hs, Ou)), Sat.stars_iff.2 (Sat.pr_iff.2 ⟨⟨hw, hr⟩, s⟩)⟩
theorem Sat.rtabWF {w0 w : World} {l : List HProp} {p : Nat} {t : TabS} (s : Sat w0 w (RTabObj p t :: l)) : t.WF := let ⟨_, _, _, _, _, _, _, _, _, _, _, _, _, h, _⟩ := s.rtabOpen; h
theorem TabS.WF.first_len {t : TabS} (h : t.WF) : t.first.length ≤ 64 * 1073741825 := by
  have h1 := nodup_le (64 * 1073741825) ((t.first.map (·.1)).map fun k => k.1.toNat * 1073741825 + k.2.toNat) (by
    refine List.pairwise_map.2 ?_
    refine (h.nd.imp_of_mem ?_)
    intro a b ha hb hne he
    obtain ⟨p, hp, rfl⟩ := List.mem_map.1 ha
    obtain ⟨q, hq, rfl⟩ := List.mem_map.1 hb
    have h2 := h.rg p hp
    have h3 := h.rg q hq
    exact hne (Prod.ext (by omega) (by omega))) (by
    intro x hx
    obtain ⟨k, hk, rfl⟩ := List.mem_map.1 hx
    obtain ⟨p, hp, rfl⟩ := List.mem_map.1 hk
    have h2 := h.rg p hp
    omega)
  simpa using h1
theorem first_look {t : TabS} (hw : t.WF) {F : List First} (hF : F = t.first.map toFirst) {i : Nat} (hi : i < F.length) {w e : Int} (h1 : F[i].who = w) (h2 : F[i].epoch = e) : look t.first (w, e) = some F[i].target := by
  subst hF h1 h2
  have hi' : i < t.first.length := by simpa using hi
  refine look_some hw.nd ?_
  have : t.first[i] ∈ t.first := List.getElem_mem hi'
  have e : (t.first.map toFirst)[i] = toFirst t.first[i] := List.getElem_map ..
  rw [e]
  exact this
theorem first_none {t : TabS} {F : List First} (hF : F = t.first.map toFirst) {w e : Int} (h : ∀ j (hj : j < F.length), ¬ (F[j].who = w ∧ F[j].epoch = e)) : look t.first (w, e) = none := by
  subst hF
  refine look_none_iff.2 fun p hp hk => ?_
  obtain ⟨j, hj, rfl⟩ := List.mem_iff_getElem.1 hp
  refine h j (by simpa using hj) ?_
  simp [toFirst, hk]

set_option maxRecDepth 100000 in
set_option maxHeartbeats 1000000 in
theorem RIs_calls {w0 w : World} {l : List HProp} (p : Nat) (N : Nat) (x1 x2 x3 x4 x5 : Value) (who : Int) (hs : Sat w0 w ((Blk p (.cells #[.int .i64 (N : Int), x1, x2, x3, x4, x5] 100 (0, 0))) :: l))  :
    Calls Try.prog 48 #[.pointer (some ⟨p, 0, none⟩), .int .i64 who] w (Ret w0 fun v l' => v = .bool (decide (0 ≤ who) && decide (who < N)) ∧ l' = Blk p (.cells #[.int .i64 (N : Int), x1, x2, x3, x4, x5] 100 (0, 0)) :: l) := by
  refine calls_enter Try.func48 rfl rfl rfl hs ?_
  refine cd_sr ?_   -- 0
  refine ol_q (wn_none rfl) (op_assign (v := .bool _) rfl) rfl ?_
  refine ol_nil_then ?_
  refine cd_sr ?_   -- 1
  refine ol_q (wn_none rfl) (op_move (v := .int _ _) rfl) rfl ?_
  refine ol_q (wn_none rfl) (op_ge rfl rfl) rfl ?_
  refine ol_q (wn_none rfl) (op_move (v := .bool _) rfl) rfl ?_
  refine ol_split 7 rfl (fun hb1 => ?_) (fun hb1 => ?_)
  · have hp1 := hb1
    (try simp only [decide_eq_true_eq, decide_eq_false_iff_not, Bool.not_eq_true', Bool.not_eq_false', ne_eq, Decidable.not_not] at hp1)
    refine ol_q (wn_some rfl rfl rfl hb1 rfl) (op_move (v := .int _ _) rfl) rfl ?_
    refine ol_q (wn_some rfl rfl rfl hb1 rfl) (op_move (v := .pointer _) rfl) rfl ?_
    refine ol_q (wn_some rfl rfl rfl hb1 rfl) (op_nilck rfl) rfl ?_
    refine ol_q (wn_some rfl rfl rfl hb1 rfl) (op_field fld_100_0 rfl) rfl ?_
    refine ol_q (wn_some rfl rfl rfl hb1 rfl) (op_ld 0 sc_3 rfl rfl rfl) rfl ?_
    refine ol_q (wn_some rfl rfl rfl hb1 rfl) (op_lt rfl rfl) rfl ?_
    refine ol_q (wn_none rfl) (op_pick_t (v := .bool _) rfl hb1 rfl) rfl ?_
    refine ol_q (wn_none rfl) (op_assign (v := .bool _) rfl) rfl ?_
    refine ol_nil_then ?_
    refine cd_ret ?_
    exact px_ret1 rfl (v := .bool _) rfl (fun _ s => s) ⟨congrArg Value.bool (by simp [*]), rfl⟩
  · have hp1 := hb1
    (try simp only [decide_eq_true_eq, decide_eq_false_iff_not, Bool.not_eq_true', Bool.not_eq_false', ne_eq, Decidable.not_not] at hp1)
    refine ol_skip (wn_some rfl rfl rfl hb1 rfl) rfl ?_
    refine ol_skip (wn_some rfl rfl rfl hb1 rfl) rfl ?_
    refine ol_skip (wn_some rfl rfl rfl hb1 rfl) rfl ?_
    refine ol_skip (wn_some rfl rfl rfl hb1 rfl) rfl ?_
    refine ol_skip (wn_some rfl rfl rfl hb1 rfl) rfl ?_
    refine ol_skip (wn_some rfl rfl rfl hb1 rfl) rfl ?_
    refine ol_q (wn_none rfl) (op_pick_f (v := .bool _) rfl hb1 rfl) rfl ?_
    refine ol_q (wn_none rfl) (op_assign (v := .bool _) rfl) rfl ?_
    refine ol_nil_then ?_
    refine cd_ret ?_
    exact px_ret1 rfl (v := .bool _) rfl (fun _ s => s) ⟨congrArg Value.bool (by simp [*]), rfl⟩

set_option maxRecDepth 100000 in
set_option maxHeartbeats 1000000 in
theorem RNew_calls {w0 w : World} {l : List HProp} (n sl : Int) (hs : Sat w0 w (l))  :
    Calls Try.prog 22 #[.int .i64 n, .int .i64 sl] w (Ret w0 fun v l' => (v = .tuple #[.pointer none, .bool false] ∧ l' = l ∧ (n < 1 ∨ 64 < n ∨ sl < 1 ∨ 32 < sl)) ∨ ∃ p, v = .tuple #[.pointer (some ⟨p, 0, none⟩), .bool true] ∧ (1 ≤ n ∧ n ≤ 64 ∧ 1 ≤ sl ∧ sl ≤ 32) ∧ l' = RTabObj p (TabS.new n.toNat sl) :: l) := by
  refine calls_enter Try.func22 rfl rfl rfl hs ?_
  refine cd_sr ?_   -- 0
  refine ol_q (wn_none rfl) (op_assign (v := .pointer _) rfl) rfl ?_
  refine ol_q (wn_none rfl) (op_assign (v := .bool _) rfl) rfl ?_
  refine ol_nil_then ?_
  refine cd_seq ?_
  refine cd_sr ?_   -- 1
  refine ol_q (wn_none rfl) (op_move (v := .int _ _) rfl) rfl ?_
  refine ol_q (wn_none rfl) (op_lt rfl rfl) rfl ?_
  refine ol_q (wn_none rfl) (op_move (v := .bool _) rfl) rfl ?_
  refine ol_split 8 rfl (fun hb1 => ?_) (fun hb1 => ?_)
  · have hp1 := hb1
    (try simp only [decide_eq_true_eq, decide_eq_false_iff_not, Bool.not_eq_true', Bool.not_eq_false', ne_eq, Decidable.not_not] at hp1)
    refine ol_skip (wn_some rfl rfl rfl hb1 rfl) rfl ?_
    refine ol_skip (wn_some rfl rfl rfl hb1 rfl) rfl ?_
    refine ol_q (wn_none rfl) (op_pick_t (v := .bool _) rfl hb1 rfl) rfl ?_
    refine ol_q (wn_none rfl) (op_move (v := .bool _) rfl) rfl ?_
    refine ol_skip (wn_some rfl rfl rfl rfl rfl) rfl ?_
    refine ol_skip (wn_some rfl rfl rfl rfl rfl) rfl ?_
    refine ol_q (wn_none rfl) (op_pick_t (v := .bool _) rfl rfl rfl) rfl ?_
    refine ol_q (wn_none rfl) (op_move (v := .bool _) rfl) rfl ?_
    refine ol_skip (wn_some rfl rfl rfl rfl rfl) rfl ?_
    refine ol_skip (wn_some rfl rfl rfl rfl rfl) rfl ?_
    refine ol_q (wn_none rfl) (op_pick_t (v := .bool _) rfl rfl rfl) rfl ?_
    refine ol_nil_then ?_
    refine cd_cond_t rfl rfl ?_
    refine cd_sr ?_   -- 2
    refine ol_q (wn_none rfl) (op_assign (v := .pointer _) rfl) rfl ?_
    refine ol_q (wn_none rfl) (op_assign (v := .bool _) rfl) rfl ?_
    refine ol_nil_then ?_
    refine cd_ret ?_
    refine px_thenR ?_
    exact px_ret2 rfl (v1 := .pointer _) (v2 := .bool _) rfl rfl (fun _ s => s) (.inl ⟨rfl, rfl, by omega⟩)
  · have hp1 := hb1
    (try simp only [decide_eq_true_eq, decide_eq_false_iff_not, Bool.not_eq_true', Bool.not_eq_false', ne_eq, Decidable.not_not] at hp1)
    refine ol_q (wn_some rfl rfl rfl hb1 rfl) (op_move (v := .int _ _) rfl) rfl ?_
    refine ol_q (wn_some rfl rfl rfl hb1 rfl) (op_gt rfl rfl) rfl ?_
    refine ol_q (wn_none rfl) (op_pick_f (v := .bool _) rfl hb1 rfl) rfl ?_
    refine ol_q (wn_none rfl) (op_move (v := .bool _) rfl) rfl ?_
    refine ol_split 12 rfl (fun hb2 => ?_) (fun hb2 => ?_)
    · have hp2 := hb2
      (try simp only [decide_eq_true_eq, decide_eq_false_iff_not, Bool.not_eq_true', Bool.not_eq_false', ne_eq, Decidable.not_not] at hp2)
      refine ol_skip (wn_some rfl rfl rfl hb2 rfl) rfl ?_
      refine ol_skip (wn_some rfl rfl rfl hb2 rfl) rfl ?_
      refine ol_q (wn_none rfl) (op_pick_t (v := .bool _) rfl hb2 rfl) rfl ?_
      refine ol_q (wn_none rfl) (op_move (v := .bool _) rfl) rfl ?_
      refine ol_skip (wn_some rfl rfl rfl rfl rfl) rfl ?_
      refine ol_skip (wn_some rfl rfl rfl rfl rfl) rfl ?_
      refine ol_q (wn_none rfl) (op_pick_t (v := .bool _) rfl rfl rfl) rfl ?_
      refine ol_nil_then ?_
      refine cd_cond_t rfl rfl ?_
      refine cd_sr ?_   -- 2
      refine ol_q (wn_none rfl) (op_assign (v := .pointer _) rfl) rfl ?_
      refine ol_q (wn_none rfl) (op_assign (v := .bool _) rfl) rfl ?_
      refine ol_nil_then ?_
      refine cd_ret ?_
      refine px_thenR ?_
      exact px_ret2 rfl (v1 := .pointer _) (v2 := .bool _) rfl rfl (fun _ s => s) (.inl ⟨rfl, rfl, by omega⟩)
    · have hp2 := hb2
      (try simp only [decide_eq_true_eq, decide_eq_false_iff_not, Bool.not_eq_true', Bool.not_eq_false', ne_eq, Decidable.not_not] at hp2)
      refine ol_q (wn_some rfl rfl rfl hb2 rfl) (op_move (v := .int _ _) rfl) rfl ?_
      refine ol_q (wn_some rfl rfl rfl hb2 rfl) (op_lt rfl rfl) rfl ?_
      refine ol_q (wn_none rfl) (op_pick_f (v := .bool _) rfl hb2 rfl) rfl ?_
      refine ol_q (wn_none rfl) (op_move (v := .bool _) rfl) rfl ?_
      refine ol_split 16 rfl (fun hb3 => ?_) (fun hb3 => ?_)
      · have hp3 := hb3
        (try simp only [decide_eq_true_eq, decide_eq_false_iff_not, Bool.not_eq_true', Bool.not_eq_false', ne_eq, Decidable.not_not] at hp3)
        refine ol_skip (wn_some rfl rfl rfl hb3 rfl) rfl ?_
        refine ol_skip (wn_some rfl rfl rfl hb3 rfl) rfl ?_
        refine ol_q (wn_none rfl) (op_pick_t (v := .bool _) rfl hb3 rfl) rfl ?_
        refine ol_nil_then ?_
        refine cd_cond_t rfl rfl ?_
        refine cd_sr ?_   -- 2
        refine ol_q (wn_none rfl) (op_assign (v := .pointer _) rfl) rfl ?_
        refine ol_q (wn_none rfl) (op_assign (v := .bool _) rfl) rfl ?_
        refine ol_nil_then ?_
        refine cd_ret ?_
        refine px_thenR ?_
        exact px_ret2 rfl (v1 := .pointer _) (v2 := .bool _) rfl rfl (fun _ s => s) (.inl ⟨rfl, rfl, by omega⟩)
      · have hp3 := hb3
        (try simp only [decide_eq_true_eq, decide_eq_false_iff_not, Bool.not_eq_true', Bool.not_eq_false', ne_eq, Decidable.not_not] at hp3)
        refine ol_q (wn_some rfl rfl rfl hb3 rfl) (op_move (v := .int _ _) rfl) rfl ?_
        refine ol_q (wn_some rfl rfl rfl hb3 rfl) (op_gt rfl rfl) rfl ?_
        refine ol_q (wn_none rfl) (op_pick_f (v := .bool _) rfl hb3 rfl) rfl ?_
        refine ol_nil_then ?_
        refine cd_cond rfl (fun hb4 => ?_) (fun hb4 => ?_)
        · have hp4 := hb4
          (try simp only [decide_eq_true_eq, decide_eq_false_iff_not, Bool.not_eq_true', Bool.not_eq_false', ne_eq, Decidable.not_not] at hp4)
          refine cd_sr ?_   -- 2
          refine ol_q (wn_none rfl) (op_assign (v := .pointer _) rfl) rfl ?_
          refine ol_q (wn_none rfl) (op_assign (v := .bool _) rfl) rfl ?_
          refine ol_nil_then ?_
          refine cd_ret ?_
          refine px_thenR ?_
          exact px_ret2 rfl (v1 := .pointer _) (v2 := .bool _) rfl rfl (fun _ s => s) (.inl ⟨rfl, rfl, by omega⟩)
        · have hp4 := hb4
          (try simp only [decide_eq_true_eq, decide_eq_false_iff_not, Bool.not_eq_true', Bool.not_eq_false', ne_eq, Decidable.not_not] at hp4)
          refine cd_skip ?_
          refine px_then ?_
          refine cd_seq ?_   -- 3
          refine cd_drawe (M := []) mx [3, 5, 7, 9] ?_
          -- 0
          refine et_quiet 0 (by kernel_rfl) rfl (by kernel_rfl) (wn_none rfl) (op_move (v := .int _ _) rfl) rfl ?_
          -- 1
          refine et_quiet 1 (by kernel_rfl) rfl (by kernel_rfl) (wn_none rfl) (op_move (v := .int _ _) rfl) rfl ?_
          -- 2
          refine et_quiet 2 (by kernel_rfl) rfl (by kernel_rfl) (wn_none rfl) (op_move (v := .int _ _) rfl) rfl ?_
          -- 4
          refine et_quiet 4 (by kernel_rfl) rfl (by kernel_rfl) (wn_none rfl) (op_move (v := .int _ _) rfl) rfl ?_
          -- 6
          refine et_quiet 6 (by kernel_rfl) rfl (by kernel_rfl) (wn_none rfl) (op_move (v := .int _ _) rfl) rfl ?_
          refine et_3 (i1 := 3) (i2 := 5) (i3 := 7) (by kernel_rfl) ?_ ?_ ?_
          · -- 3
            refine ei_i rfl rfl (wn_none rfl) (os_make (E := encVote) (_) (Vote.zero) sB_46 zv_31 rfl rfl rfl (Int.toNat_of_nonneg (by omega)).symm (by omega) (by unfold maxLen; omega)) rfl ?_; rintro _ _ ⟨ao1, rfl, rfl⟩; refine ⟨[_], rfl, ?_⟩
            refine et_2 (i1 := 5) (i2 := 7) (by kernel_rfl) ?_ ?_
            · -- 5
              refine ei_i rfl rfl (wn_none rfl) (os_make (E := encBool) (_) (false) sB_52 zv_4 rfl rfl rfl (Int.toNat_of_nonneg (by omega)).symm (by omega) (by unfold maxLen; omega)) rfl ?_; rintro _ _ ⟨ao2, rfl, rfl⟩; refine ⟨[_, _], rfl, ?_⟩
              refine et_1 (i := 7) (by kernel_rfl) ?_
              refine ei_i rfl rfl (wn_none rfl) (os_make (E := encBool) (_) (false) sB_52 zv_4 rfl rfl rfl (Int.toNat_of_nonneg (by omega)).symm (by omega) (by unfold maxLen; omega)) rfl ?_; rintro _ _ ⟨ao3, rfl, rfl⟩; refine ⟨[_, _, _], rfl, ?_⟩
              -- 8
              refine et_quiet 8 (by kernel_rfl) rfl (by kernel_rfl) (wn_none rfl) (op_build (L := [_, _, _, _, _, _]) (vs := [(0, .int _ _), (1, .int _ _), (3, .slice _ _ _), (4, .slice _ _ _), (5, .slice _ _ _)]) bB_100 rfl ⟨⟨rfl, rfl⟩, ⟨rfl, rfl⟩, ⟨rfl, rfl⟩, ⟨rfl, rfl⟩, ⟨rfl, rfl⟩, trivial⟩ rfl) rfl ?_
              refine et_1 (i := 9) (by kernel_rfl) ?_
              refine ei_i rfl rfl (wn_none rfl) (os_boxa rfl) rfl ?_; rintro _ _ ⟨bx1, rfl, rfl⟩; refine ⟨[_, _, _, _], rfl, ?_⟩
              -- 10
              refine et_quiet 10 (by kernel_rfl) rfl (by kernel_rfl) (wn_none rfl) (op_assign (v := .pointer _) rfl) rfl ?_
              -- 11
              refine et_quiet 11 (by kernel_rfl) rfl (by kernel_rfl) (wn_none rfl) (op_assign (v := .bool _) rfl) rfl ?_
              refine et_nil_then (by kernel_rfl) ?_
              refine cd_ret ?_
              obtain ⟨k, rfl⟩ : ∃ k : Nat, n = k := ⟨n.toNat, by omega⟩
              refine px_ret2 rfl (v1 := .pointer _) (v2 := .bool _) (l' := RTabObj _ (TabS.new k sl) :: l) rfl rfl (fun _ s => ?_) (.inr ⟨_, rfl, by omega, rfl⟩)
              have s2 := ((((s.pull 1).pull 2).pull 3).pull 3)
              exact Sat.rtabMk (t := TabS.new k sl) (N := k) (F := []) (Lv := List.replicate k Vote.zero) (Hs := List.replicate k false) (Ou := List.replicate k false) (TabS.WF.new (by omega) (by omega) (by omega)) ⟨by simp [TabS.new], by simp [TabS.new], by simp [TabS.new], by simp [TabS.new], by simp [TabS.new]⟩ rfl (by simp) (by simp) (by simp) ((((((Sat.rowNil (e := 102) (E := encFirst) s2).pull 4).pull 4).pull 4).pull 3).pull 4)
            · -- 7
              refine ei_i rfl rfl (wn_none rfl) (os_make (E := encBool) (_) (false) sB_52 zv_4 rfl rfl rfl (Int.toNat_of_nonneg (by omega)).symm (by omega) (by unfold maxLen; omega)) rfl ?_; rintro _ _ ⟨ao4, rfl, rfl⟩; refine ⟨[_, _], rfl, ?_⟩
              refine et_1 (i := 5) (by kernel_rfl) ?_
              refine ei_i rfl rfl (wn_none rfl) (os_make (E := encBool) (_) (false) sB_52 zv_4 rfl rfl rfl (Int.toNat_of_nonneg (by omega)).symm (by omega) (by unfold maxLen; omega)) rfl ?_; rintro _ _ ⟨ao5, rfl, rfl⟩; refine ⟨[_, _, _], rfl, ?_⟩
              -- 8
              refine et_quiet 8 (by kernel_rfl) rfl (by kernel_rfl) (wn_none rfl) (op_build (L := [_, _, _, _, _, _]) (vs := [(0, .int _ _), (1, .int _ _), (3, .slice _ _ _), (4, .slice _ _ _), (5, .slice _ _ _)]) bB_100 rfl ⟨⟨rfl, rfl⟩, ⟨rfl, rfl⟩, ⟨rfl, rfl⟩, ⟨rfl, rfl⟩, ⟨rfl, rfl⟩, trivial⟩ rfl) rfl ?_
              refine et_1 (i := 9) (by kernel_rfl) ?_
              refine ei_i rfl rfl (wn_none rfl) (os_boxa rfl) rfl ?_; rintro _ _ ⟨bx2, rfl, rfl⟩; refine ⟨[_, _, _, _], rfl, ?_⟩
              -- 10
              refine et_quiet 10 (by kernel_rfl) rfl (by kernel_rfl) (wn_none rfl) (op_assign (v := .pointer _) rfl) rfl ?_
              -- 11
              refine et_quiet 11 (by kernel_rfl) rfl (by kernel_rfl) (wn_none rfl) (op_assign (v := .bool _) rfl) rfl ?_
              refine et_nil_then (by kernel_rfl) ?_
              refine cd_ret ?_
              obtain ⟨k, rfl⟩ : ∃ k : Nat, n = k := ⟨n.toNat, by omega⟩
              refine px_ret2 rfl (v1 := .pointer _) (v2 := .bool _) (l' := RTabObj _ (TabS.new k sl) :: l) rfl rfl (fun _ s => ?_) (.inr ⟨_, rfl, by omega, rfl⟩)
              have s2 := ((((s.pull 2).pull 2).pull 3).pull 3)
              exact Sat.rtabMk (t := TabS.new k sl) (N := k) (F := []) (Lv := List.replicate k Vote.zero) (Hs := List.replicate k false) (Ou := List.replicate k false) (TabS.WF.new (by omega) (by omega) (by omega)) ⟨by simp [TabS.new], by simp [TabS.new], by simp [TabS.new], by simp [TabS.new], by simp [TabS.new]⟩ rfl (by simp) (by simp) (by simp) ((((((Sat.rowNil (e := 102) (E := encFirst) s2).pull 4).pull 4).pull 4).pull 3).pull 4)
          · -- 5
            refine ei_i rfl rfl (wn_none rfl) (os_make (E := encBool) (_) (false) sB_52 zv_4 rfl rfl rfl (Int.toNat_of_nonneg (by omega)).symm (by omega) (by unfold maxLen; omega)) rfl ?_; rintro _ _ ⟨ao6, rfl, rfl⟩; refine ⟨[_], rfl, ?_⟩
            refine et_2 (i1 := 3) (i2 := 7) (by kernel_rfl) ?_ ?_
            · -- 3
              refine ei_i rfl rfl (wn_none rfl) (os_make (E := encVote) (_) (Vote.zero) sB_46 zv_31 rfl rfl rfl (Int.toNat_of_nonneg (by omega)).symm (by omega) (by unfold maxLen; omega)) rfl ?_; rintro _ _ ⟨ao7, rfl, rfl⟩; refine ⟨[_, _], rfl, ?_⟩
              refine et_1 (i := 7) (by kernel_rfl) ?_
              refine ei_i rfl rfl (wn_none rfl) (os_make (E := encBool) (_) (false) sB_52 zv_4 rfl rfl rfl (Int.toNat_of_nonneg (by omega)).symm (by omega) (by unfold maxLen; omega)) rfl ?_; rintro _ _ ⟨ao8, rfl, rfl⟩; refine ⟨[_, _, _], rfl, ?_⟩
              -- 8
              refine et_quiet 8 (by kernel_rfl) rfl (by kernel_rfl) (wn_none rfl) (op_build (L := [_, _, _, _, _, _]) (vs := [(0, .int _ _), (1, .int _ _), (3, .slice _ _ _), (4, .slice _ _ _), (5, .slice _ _ _)]) bB_100 rfl ⟨⟨rfl, rfl⟩, ⟨rfl, rfl⟩, ⟨rfl, rfl⟩, ⟨rfl, rfl⟩, ⟨rfl, rfl⟩, trivial⟩ rfl) rfl ?_
              refine et_1 (i := 9) (by kernel_rfl) ?_
              refine ei_i rfl rfl (wn_none rfl) (os_boxa rfl) rfl ?_; rintro _ _ ⟨bx3, rfl, rfl⟩; refine ⟨[_, _, _, _], rfl, ?_⟩
              -- 10
              refine et_quiet 10 (by kernel_rfl) rfl (by kernel_rfl) (wn_none rfl) (op_assign (v := .pointer _) rfl) rfl ?_
              -- 11
              refine et_quiet 11 (by kernel_rfl) rfl (by kernel_rfl) (wn_none rfl) (op_assign (v := .bool _) rfl) rfl ?_
              refine et_nil_then (by kernel_rfl) ?_
              refine cd_ret ?_
              obtain ⟨k, rfl⟩ : ∃ k : Nat, n = k := ⟨n.toNat, by omega⟩
              refine px_ret2 rfl (v1 := .pointer _) (v2 := .bool _) (l' := RTabObj _ (TabS.new k sl) :: l) rfl rfl (fun _ s => ?_) (.inr ⟨_, rfl, by omega, rfl⟩)
              have s2 := ((((s.pull 1).pull 3).pull 3).pull 3)
              exact Sat.rtabMk (t := TabS.new k sl) (N := k) (F := []) (Lv := List.replicate k Vote.zero) (Hs := List.replicate k false) (Ou := List.replicate k false) (TabS.WF.new (by omega) (by omega) (by omega)) ⟨by simp [TabS.new], by simp [TabS.new], by simp [TabS.new], by simp [TabS.new], by simp [TabS.new]⟩ rfl (by simp) (by simp) (by simp) ((((((Sat.rowNil (e := 102) (E := encFirst) s2).pull 4).pull 4).pull 4).pull 3).pull 4)
            · -- 7
              refine ei_i rfl rfl (wn_none rfl) (os_make (E := encBool) (_) (false) sB_52 zv_4 rfl rfl rfl (Int.toNat_of_nonneg (by omega)).symm (by omega) (by unfold maxLen; omega)) rfl ?_; rintro _ _ ⟨ao9, rfl, rfl⟩; refine ⟨[_, _], rfl, ?_⟩
              refine et_1 (i := 3) (by kernel_rfl) ?_
              refine ei_i rfl rfl (wn_none rfl) (os_make (E := encVote) (_) (Vote.zero) sB_46 zv_31 rfl rfl rfl (Int.toNat_of_nonneg (by omega)).symm (by omega) (by unfold maxLen; omega)) rfl ?_; rintro _ _ ⟨ao10, rfl, rfl⟩; refine ⟨[_, _, _], rfl, ?_⟩
              -- 8
              refine et_quiet 8 (by kernel_rfl) rfl (by kernel_rfl) (wn_none rfl) (op_build (L := [_, _, _, _, _, _]) (vs := [(0, .int _ _), (1, .int _ _), (3, .slice _ _ _), (4, .slice _ _ _), (5, .slice _ _ _)]) bB_100 rfl ⟨⟨rfl, rfl⟩, ⟨rfl, rfl⟩, ⟨rfl, rfl⟩, ⟨rfl, rfl⟩, ⟨rfl, rfl⟩, trivial⟩ rfl) rfl ?_
              refine et_1 (i := 9) (by kernel_rfl) ?_
              refine ei_i rfl rfl (wn_none rfl) (os_boxa rfl) rfl ?_; rintro _ _ ⟨bx4, rfl, rfl⟩; refine ⟨[_, _, _, _], rfl, ?_⟩
              -- 10
              refine et_quiet 10 (by kernel_rfl) rfl (by kernel_rfl) (wn_none rfl) (op_assign (v := .pointer _) rfl) rfl ?_
              -- 11
              refine et_quiet 11 (by kernel_rfl) rfl (by kernel_rfl) (wn_none rfl) (op_assign (v := .bool _) rfl) rfl ?_
              refine et_nil_then (by kernel_rfl) ?_
              refine cd_ret ?_
              obtain ⟨k, rfl⟩ : ∃ k : Nat, n = k := ⟨n.toNat, by omega⟩
              refine px_ret2 rfl (v1 := .pointer _) (v2 := .bool _) (l' := RTabObj _ (TabS.new k sl) :: l) rfl rfl (fun _ s => ?_) (.inr ⟨_, rfl, by omega, rfl⟩)
              have s2 := ((((s.pull 2).pull 3).pull 3).pull 3)
              exact Sat.rtabMk (t := TabS.new k sl) (N := k) (F := []) (Lv := List.replicate k Vote.zero) (Hs := List.replicate k false) (Ou := List.replicate k false) (TabS.WF.new (by omega) (by omega) (by omega)) ⟨by simp [TabS.new], by simp [TabS.new], by simp [TabS.new], by simp [TabS.new], by simp [TabS.new]⟩ rfl (by simp) (by simp) (by simp) ((((((Sat.rowNil (e := 102) (E := encFirst) s2).pull 4).pull 4).pull 4).pull 3).pull 4)
          · -- 7
            refine ei_i rfl rfl (wn_none rfl) (os_make (E := encBool) (_) (false) sB_52 zv_4 rfl rfl rfl (Int.toNat_of_nonneg (by omega)).symm (by omega) (by unfold maxLen; omega)) rfl ?_; rintro _ _ ⟨ao11, rfl, rfl⟩; refine ⟨[_], rfl, ?_⟩
            refine et_2 (i1 := 3) (i2 := 5) (by kernel_rfl) ?_ ?_
            · -- 3
              refine ei_i rfl rfl (wn_none rfl) (os_make (E := encVote) (_) (Vote.zero) sB_46 zv_31 rfl rfl rfl (Int.toNat_of_nonneg (by omega)).symm (by omega) (by unfold maxLen; omega)) rfl ?_; rintro _ _ ⟨ao12, rfl, rfl⟩; refine ⟨[_, _], rfl, ?_⟩
              refine et_1 (i := 5) (by kernel_rfl) ?_
              refine ei_i rfl rfl (wn_none rfl) (os_make (E := encBool) (_) (false) sB_52 zv_4 rfl rfl rfl (Int.toNat_of_nonneg (by omega)).symm (by omega) (by unfold maxLen; omega)) rfl ?_; rintro _ _ ⟨ao13, rfl, rfl⟩; refine ⟨[_, _, _], rfl, ?_⟩
              -- 8
              refine et_quiet 8 (by kernel_rfl) rfl (by kernel_rfl) (wn_none rfl) (op_build (L := [_, _, _, _, _, _]) (vs := [(0, .int _ _), (1, .int _ _), (3, .slice _ _ _), (4, .slice _ _ _), (5, .slice _ _ _)]) bB_100 rfl ⟨⟨rfl, rfl⟩, ⟨rfl, rfl⟩, ⟨rfl, rfl⟩, ⟨rfl, rfl⟩, ⟨rfl, rfl⟩, trivial⟩ rfl) rfl ?_
              refine et_1 (i := 9) (by kernel_rfl) ?_
              refine ei_i rfl rfl (wn_none rfl) (os_boxa rfl) rfl ?_; rintro _ _ ⟨bx5, rfl, rfl⟩; refine ⟨[_, _, _, _], rfl, ?_⟩
              -- 10
              refine et_quiet 10 (by kernel_rfl) rfl (by kernel_rfl) (wn_none rfl) (op_assign (v := .pointer _) rfl) rfl ?_
              -- 11
              refine et_quiet 11 (by kernel_rfl) rfl (by kernel_rfl) (wn_none rfl) (op_assign (v := .bool _) rfl) rfl ?_
              refine et_nil_then (by kernel_rfl) ?_
              refine cd_ret ?_
              obtain ⟨k, rfl⟩ : ∃ k : Nat, n = k := ⟨n.toNat, by omega⟩
              refine px_ret2 rfl (v1 := .pointer _) (v2 := .bool _) (l' := RTabObj _ (TabS.new k sl) :: l) rfl rfl (fun _ s => ?_) (.inr ⟨_, rfl, by omega, rfl⟩)
              have s2 := ((((s.pull 3).pull 2).pull 3).pull 3)
              exact Sat.rtabMk (t := TabS.new k sl) (N := k) (F := []) (Lv := List.replicate k Vote.zero) (Hs := List.replicate k false) (Ou := List.replicate k false) (TabS.WF.new (by omega) (by omega) (by omega)) ⟨by simp [TabS.new], by simp [TabS.new], by simp [TabS.new], by simp [TabS.new], by simp [TabS.new]⟩ rfl (by simp) (by simp) (by simp) ((((((Sat.rowNil (e := 102) (E := encFirst) s2).pull 4).pull 4).pull 4).pull 3).pull 4)
            · -- 5
              refine ei_i rfl rfl (wn_none rfl) (os_make (E := encBool) (_) (false) sB_52 zv_4 rfl rfl rfl (Int.toNat_of_nonneg (by omega)).symm (by omega) (by unfold maxLen; omega)) rfl ?_; rintro _ _ ⟨ao14, rfl, rfl⟩; refine ⟨[_, _], rfl, ?_⟩
              refine et_1 (i := 3) (by kernel_rfl) ?_
              refine ei_i rfl rfl (wn_none rfl) (os_make (E := encVote) (_) (Vote.zero) sB_46 zv_31 rfl rfl rfl (Int.toNat_of_nonneg (by omega)).symm (by omega) (by unfold maxLen; omega)) rfl ?_; rintro _ _ ⟨ao15, rfl, rfl⟩; refine ⟨[_, _, _], rfl, ?_⟩
              -- 8
              refine et_quiet 8 (by kernel_rfl) rfl (by kernel_rfl) (wn_none rfl) (op_build (L := [_, _, _, _, _, _]) (vs := [(0, .int _ _), (1, .int _ _), (3, .slice _ _ _), (4, .slice _ _ _), (5, .slice _ _ _)]) bB_100 rfl ⟨⟨rfl, rfl⟩, ⟨rfl, rfl⟩, ⟨rfl, rfl⟩, ⟨rfl, rfl⟩, ⟨rfl, rfl⟩, trivial⟩ rfl) rfl ?_
              refine et_1 (i := 9) (by kernel_rfl) ?_
              refine ei_i rfl rfl (wn_none rfl) (os_boxa rfl) rfl ?_; rintro _ _ ⟨bx6, rfl, rfl⟩; refine ⟨[_, _, _, _], rfl, ?_⟩
              -- 10
              refine et_quiet 10 (by kernel_rfl) rfl (by kernel_rfl) (wn_none rfl) (op_assign (v := .pointer _) rfl) rfl ?_
              -- 11
              refine et_quiet 11 (by kernel_rfl) rfl (by kernel_rfl) (wn_none rfl) (op_assign (v := .bool _) rfl) rfl ?_
              refine et_nil_then (by kernel_rfl) ?_
              refine cd_ret ?_
              obtain ⟨k, rfl⟩ : ∃ k : Nat, n = k := ⟨n.toNat, by omega⟩
              refine px_ret2 rfl (v1 := .pointer _) (v2 := .bool _) (l' := RTabObj _ (TabS.new k sl) :: l) rfl rfl (fun _ s => ?_) (.inr ⟨_, rfl, by omega, rfl⟩)
              have s2 := s
              exact Sat.rtabMk (t := TabS.new k sl) (N := k) (F := []) (Lv := List.replicate k Vote.zero) (Hs := List.replicate k false) (Ou := List.replicate k false) (TabS.WF.new (by omega) (by omega) (by omega)) ⟨by simp [TabS.new], by simp [TabS.new], by simp [TabS.new], by simp [TabS.new], by simp [TabS.new]⟩ rfl (by simp) (by simp) (by simp) ((((((Sat.rowNil (e := 102) (E := encFirst) s2).pull 4).pull 4).pull 4).pull 3).pull 4)

set_option maxRecDepth 100000 in
set_option maxHeartbeats 1000000 in
theorem RTake_calls {w0 w : World} {l : List HProp} (p : Nat) (t : TabS) (v : Vote) (hs : Sat w0 w ((RTabObj p t) :: l))  :
    Calls Try.prog 23 #[.pointer (some ⟨p, 0, none⟩), .agg (voteC v).toArray] w (Ret w0 fun r l' => r = .int .i64 (t.take v).1 ∧ l' = RTabObj p (t.take v).2 :: l) := by
  obtain ⟨a1, c1, a2, c2, a3, c3, a4, c4, N, F, Lv, Hs, Ou, hw, hR, hs⟩ := hs.rtabOpen
  have hs1 := hw.s1; have hs2 := hw.s2; have hn1 := hw.n1; have hlo := hw.lo; have hN := hR.n; have hFl : F.length ≤ 64 * 1073741825 := by rw [hR.f, List.length_map]; exact hw.first_len
  have hLl : Lv.length = N := by rw [hR.l, hR.n, List.length_map]
  have hHl : Hs.length = N := by rw [hR.h, hR.n, List.length_map]
  have hOl : Ou.length = N := by rw [hR.o, hR.n]; exact hlo
  refine calls_enter Try.func23 rfl rfl rfl hs ?_
  refine cd_sr ?_   -- 0
  refine ol_i (wn_none rfl) (os_boxa rfl) rfl ?_; rintro _ _ ⟨bx1, rfl, rfl⟩
  refine ol_q (wn_none rfl) (op_assign (v := .int _ _) rfl) rfl ?_
  refine ol_nil_then ?_
  refine cd_seq ?_
  refine cd_sr ?_   -- 1
  refine ol_q (wn_none rfl) (op_move (v := .pointer _) rfl) rfl ?_
  refine ol_q (wn_none rfl) (op_field fld_31_0 rfl) rfl ?_
  refine ol_q (wn_none rfl) (op_ld 0 sc_3 rfl rfl (voteC_a0 _)) rfl ?_
  refine ol_pull1 ?_
  refine ol_i (wn_none rfl) (os_call cb_48 rfl (fun w s => RIs_calls _ _ _ _ _ _ _ _  s )) rfl ?_; rintro _ _ ⟨rfl, rfl⟩
  refine ol_q (wn_none rfl) (op_not rfl) rfl ?_
  refine ol_q (wn_none rfl) (op_move (v := .bool _) rfl) rfl ?_
  refine ol_split 13 rfl (fun hb1 => ?_) (fun hb1 => ?_)
  · have hp1 := hb1
    (try simp only [decide_eq_true_eq, decide_eq_false_iff_not, Bool.not_eq_true', Bool.not_eq_false', ne_eq, Decidable.not_not] at hp1)
    have hv : t.isV v.who = false := by unfold TabS.isV; rw [← hN]; simpa only [Bool.not_eq_true'] using hb1
    refine ol_skip (wn_some rfl rfl rfl hb1 rfl) rfl ?_
    refine ol_skip (wn_some rfl rfl rfl hb1 rfl) rfl ?_
    refine ol_skip (wn_some rfl rfl rfl hb1 rfl) rfl ?_
    refine ol_q (wn_none rfl) (op_pick_t (v := .bool _) rfl hb1 rfl) rfl ?_
    refine ol_q (wn_none rfl) (op_move (v := .bool _) rfl) rfl ?_
    refine ol_skip (wn_some rfl rfl rfl rfl rfl) rfl ?_
    refine ol_skip (wn_some rfl rfl rfl rfl rfl) rfl ?_
    refine ol_skip (wn_some rfl rfl rfl rfl rfl) rfl ?_
    refine ol_q (wn_none rfl) (op_pick_t (v := .bool _) rfl rfl rfl) rfl ?_
    refine ol_nil_then ?_
    refine cd_cond_t rfl rfl ?_
    refine cd_sr ?_   -- 2
    refine ol_q (wn_none rfl) (op_assign (v := .int _ _) rfl) rfl ?_
    refine ol_nil_then ?_
    refine cd_ret ?_
    refine px_thenR ?_
    have e : t.take v = (5, t) := by unfold TabS.take; rw [if_pos (by simp [*])]
    have hw2 := hw.take v
    rw [e] at hw2 ⊢
    exact px_ret1 rfl (v := .int _ _) (l' := RTabObj p t :: l) rfl (fun _ s => Sat.rtabMk (t := t) hw2 hR (by simp) (by simp) (by simp) (by simp) (s.del 1)) ⟨rfl, rfl⟩
  · have hp1 := hb1
    (try simp only [decide_eq_true_eq, decide_eq_false_iff_not, Bool.not_eq_true', Bool.not_eq_false', ne_eq, Decidable.not_not] at hp1)
    have hv : t.isV v.who = true := by unfold TabS.isV; rw [← hN]; simpa only [Bool.not_eq_false'] using hb1
    obtain ⟨hv1, hv2⟩ := TabS.isV_iff.1 hv
    refine ol_q (wn_some rfl rfl rfl hb1 rfl) (op_field fld_31_1 rfl) rfl ?_
    refine ol_q (wn_some rfl rfl rfl hb1 rfl) (op_ld 1 sc_3 rfl rfl (voteC_a1 _)) rfl ?_
    refine ol_q (wn_some rfl rfl rfl hb1 rfl) (op_lt rfl rfl) rfl ?_
    refine ol_q (wn_none rfl) (op_pick_f (v := .bool _) rfl hb1 rfl) rfl ?_
    refine ol_q (wn_none rfl) (op_move (v := .bool _) rfl) rfl ?_
    refine ol_split 18 rfl (fun hb2 => ?_) (fun hb2 => ?_)
    · have hp2 := hb2
      (try simp only [decide_eq_true_eq, decide_eq_false_iff_not, Bool.not_eq_true', Bool.not_eq_false', ne_eq, Decidable.not_not] at hp2)
      have hslot := of_decide_eq_true hb2
      refine ol_skip (wn_some rfl rfl rfl hb2 rfl) rfl ?_
      refine ol_skip (wn_some rfl rfl rfl hb2 rfl) rfl ?_
      refine ol_skip (wn_some rfl rfl rfl hb2 rfl) rfl ?_
      refine ol_q (wn_none rfl) (op_pick_t (v := .bool _) rfl hb2 rfl) rfl ?_
      refine ol_nil_then ?_
      refine cd_cond_t rfl rfl ?_
      refine cd_sr ?_   -- 2
      refine ol_q (wn_none rfl) (op_assign (v := .int _ _) rfl) rfl ?_
      refine ol_nil_then ?_
      refine cd_ret ?_
      refine px_thenR ?_
      have e : t.take v = (5, t) := by unfold TabS.take; rw [if_pos (by simp [*])]
      have hw2 := hw.take v
      rw [e] at hw2 ⊢
      exact px_ret1 rfl (v := .int _ _) (l' := RTabObj p t :: l) rfl (fun _ s => Sat.rtabMk (t := t) hw2 hR (by simp) (by simp) (by simp) (by simp) (s.del 1)) ⟨rfl, rfl⟩
    · have hp2 := hb2
      (try simp only [decide_eq_true_eq, decide_eq_false_iff_not, Bool.not_eq_true', Bool.not_eq_false', ne_eq, Decidable.not_not] at hp2)
      have hslot := of_decide_eq_false hb2
      refine ol_q (wn_some rfl rfl rfl hb2 rfl) (op_field fld_31_1 rfl) rfl ?_
      refine ol_q (wn_some rfl rfl rfl hb2 rfl) (op_ld 1 sc_3 rfl rfl (voteC_a1 _)) rfl ?_
      refine ol_q (wn_some rfl rfl rfl hb2 rfl) (op_gt rfl rfl) rfl ?_
      refine ol_q (wn_none rfl) (op_pick_f (v := .bool _) rfl hb2 rfl) rfl ?_
      refine ol_nil_then ?_
      refine cd_cond rfl (fun hb3 => ?_) (fun hb3 => ?_)
      · have hp3 := hb3
        (try simp only [decide_eq_true_eq, decide_eq_false_iff_not, Bool.not_eq_true', Bool.not_eq_false', ne_eq, Decidable.not_not] at hp3)
        have hslot2 := of_decide_eq_true hb3
        refine cd_sr ?_   -- 2
        refine ol_q (wn_none rfl) (op_assign (v := .int _ _) rfl) rfl ?_
        refine ol_nil_then ?_
        refine cd_ret ?_
        refine px_thenR ?_
        have e : t.take v = (5, t) := by unfold TabS.take; rw [if_pos (by simp [*])]
        have hw2 := hw.take v
        rw [e] at hw2 ⊢
        exact px_ret1 rfl (v := .int _ _) (l' := RTabObj p t :: l) rfl (fun _ s => Sat.rtabMk (t := t) hw2 hR (by simp) (by simp) (by simp) (by simp) (s.del 1)) ⟨rfl, rfl⟩
      · have hp3 := hb3
        (try simp only [decide_eq_true_eq, decide_eq_false_iff_not, Bool.not_eq_true', Bool.not_eq_false', ne_eq, Decidable.not_not] at hp3)
        have hslot2 := of_decide_eq_false hb3
        have hcond : ¬ (t.isV v.who = false ∨ v.slot < 0 ∨ 1073741824 < v.slot) := by simp only [hv]; simp; omega
        have hep := ep_le (show 0 ≤ v.slot by omega) (show v.slot ≤ 1073741824 by omega) hs1
        refine cd_skip ?_
        refine px_then ?_
        refine cd_seq ?_
        refine cd_seq ?_   -- 3
        refine cd_draw (M := []) mx [] (by kernel_rfl) ?_
        refine rg_q (wn_none rfl) (op_move (v := .pointer _) rfl) rfl rfl ?_
        refine rg_q (wn_none rfl) (op_nilck rfl) rfl rfl ?_
        refine rg_q (wn_none rfl) (op_field fld_100_5 rfl) rfl rfl ?_
        refine rg_q (wn_none rfl) (op_ld 0 sc_52 rfl rfl rfl) rfl rfl ?_
        refine rg_q (wn_none rfl) (op_field fld_31_0 rfl) rfl rfl ?_
        refine rg_q (wn_none rfl) (op_ld 1 sc_3 rfl rfl (voteC_a0 _)) rfl rfl ?_
        refine rg_q (wn_none rfl) (op_index _ sB_52 rfl rfl (Int.toNat_of_nonneg (by omega)).symm (rds_row 5 rfl rfl) rfl (by omega)) rfl rfl ?_
        refine rg_q (wn_none rfl) (op_ldw sc_4 (rds_row 5 rfl rfl) rfl (by omega) rfl) rfl rfl ?_
        refine rg_nil_then0 ?_
        refine cd_cond rfl (fun hb4 => ?_) (fun hb4 => ?_)
        · have hp4 := hb4
          (try simp only [decide_eq_true_eq, decide_eq_false_iff_not, Bool.not_eq_true', Bool.not_eq_false', ne_eq, Decidable.not_not] at hp4)
          have ho : t.out.getD v.who.toNat false = true := by have h1 := hb4; simp only [hR.o] at h1; simpa [List.getD_eq_getElem?_getD, show v.who.toNat < t.out.length by omega] using h1
          refine cd_sr ?_   -- 4
          refine ol_q (wn_none rfl) (op_assign (v := .int _ _) rfl) rfl ?_
          refine ol_nil_then ?_
          refine cd_ret ?_
          refine px_thenR ?_
          have e : t.take v = (4, t) := by unfold TabS.take; rw [if_neg hcond, if_pos ho]
          have hw2 := hw.take v
          rw [e] at hw2 ⊢
          exact px_ret1 rfl (v := .int _ _) (l' := RTabObj p t :: l) rfl (fun _ s => Sat.rtabMk (t := t) hw2 hR (by simp) (by simp) (by simp) (by simp) (s.del 1)) ⟨rfl, rfl⟩
        · have hp4 := hb4
          (try simp only [decide_eq_true_eq, decide_eq_false_iff_not, Bool.not_eq_true', Bool.not_eq_false', ne_eq, Decidable.not_not] at hp4)
          have ho : ¬ t.out.getD v.who.toNat false = true := by have h1 := hb4; simp only [hR.o] at h1; simpa [List.getD_eq_getElem?_getD, show v.who.toNat < t.out.length by omega] using h1
          refine cd_skip ?_
          refine px_then ?_
          refine cd_seq ?_   -- 5
          refine cd_draw (M := []) mx [] (by kernel_rfl) ?_
          refine rg_q (wn_none rfl) (op_field fld_31_1 rfl) rfl rfl ?_
          refine rg_q (wn_none rfl) (op_ld 1 sc_3 rfl rfl (voteC_a1 _)) rfl rfl ?_
          refine rg_q (wn_none rfl) (op_move (v := .pointer _) rfl) rfl rfl ?_
          refine rg_q (wn_none rfl) (op_nilck rfl) rfl rfl ?_
          refine rg_q (wn_none rfl) (op_field fld_100_1 rfl) rfl rfl ?_
          refine rg_q (wn_none rfl) (op_ld 0 sc_3 rfl rfl rfl) rfl rfl ?_
          refine rg_q (wn_none rfl) (op_quo rfl rfl (by omega) (by omega) (by omega)) rfl rfl ?_
          refine rg_q (wn_none rfl) (op_assign (v := .int _ _) rfl) rfl rfl ?_
          refine rg_nil_then0 ?_
          refine cd_seq ?_
          refine cd_sr ?_   -- 6
          refine ol_q (wn_none rfl) (op_move (v := .pointer _) rfl) rfl ?_
          refine ol_q (wn_none rfl) (op_nilck rfl) rfl ?_
          refine ol_q (wn_none rfl) (op_field fld_100_2 rfl) rfl ?_
          refine ol_q (wn_none rfl) (op_ld 0 sc_98 rfl rfl rfl) rfl ?_
          refine ol_q (wn_none rfl) (op_len_slice Try.underlying98 rfl) rfl ?_
          refine ol_q (wn_none rfl) (op_move (v := .int _ _) rfl) rfl ?_
          refine ol_nil_then ?_
          refine cd_block ?_
          refine cd_loop2 (α := Nat) [(4, 4), (7, 7), (43, 70)] (fun x => [(43, .int .i64 (x : Int))]) (fun _ => _) (fun x => x ≤ F.length ∧ ∀ j (h : j < F.length), j < x → ¬ (F[j].who = v.who ∧ F[j].epoch = v.slot / t.slots)) (fun x => F.length - x) 0 ⟨Nat.zero_le _, fun j h h2 => absurd h2 (Nat.not_lt_zero _)⟩ ⟨rfl, trivial⟩ (fun _ s => s) ?_
          rintro i ⟨hi, hno⟩ f; (try dsimp only at hi hno ⊢)
          refine cd_sr ?_   -- 7
          refine ol_q (wn_none rfl) (op_lt rfl rfl) rfl ?_
          refine ol_nil_then ?_
          refine cd_seq ?_
          refine cd_cond rfl (fun hb5 => ?_) (fun hb5 => ?_)
          · have hp5 := hb5
            (try simp only [decide_eq_true_eq, decide_eq_false_iff_not, Bool.not_eq_true', Bool.not_eq_false', ne_eq, Decidable.not_not] at hp5)
            refine cd_skip ?_
            refine px_then ?_
            refine cd_seq ?_
            refine cd_block ?_
            refine cd_sr ?_   -- 8
            refine ol_q (wn_none rfl) (op_index _ sB_98 rfl rfl rfl (rds_row 2 rfl rfl) rfl (by omega)) rfl ?_
            refine ol_q (wn_none rfl) (op_ldaw (L := firstC _) ag_102 (rds_row 2 rfl rfl) rfl (by omega) rfl (firstC_ta _)) rfl ?_
            refine ol_i (wn_none rfl) (os_alloc (cs := (firstC First.zero).toArray) zB_102 (by kernel_rfl)) rfl ?_; rintro _ _ ⟨bx2, rfl, rfl⟩
            refine ol_iN (wn_none rfl) (os_storew (firstC _) ag_102 rfl rfl (firstC_len _) (firstC_one _) (by simp [firstC_len]) (Free.zero _)) ?_; rintro _ _ ⟨rfl, rfl⟩
            refine ol_nil_then ?_
            refine cd_sr ?_   -- 9
            refine ol_q (wn_none rfl) (op_field fld_102_0 rfl) rfl ?_
            refine ol_q (wn_none rfl) (op_ld 0 sc_3 rfl rfl (firstC_a0 _)) rfl ?_
            refine ol_q (wn_none rfl) (op_field fld_31_0 rfl) rfl ?_
            refine ol_q (wn_none rfl) (op_ld 2 sc_3 rfl rfl (voteC_a0 _)) rfl ?_
            refine ol_q (wn_none rfl) (op_eq rfl rfl) rfl ?_
            refine ol_q (wn_none rfl) (op_move (v := .bool _) rfl) rfl ?_
            refine ol_split 52 rfl (fun hb6 => ?_) (fun hb6 => ?_)
            · have hp6 := hb6
              (try simp only [decide_eq_true_eq, decide_eq_false_iff_not, Bool.not_eq_true', Bool.not_eq_false', ne_eq, Decidable.not_not] at hp6)
              refine ol_q (wn_some rfl rfl rfl hb6 rfl) (op_field fld_102_1 rfl) rfl ?_
              refine ol_q (wn_some rfl rfl rfl hb6 rfl) (op_ld 0 sc_3 rfl rfl (firstC_a1 _)) rfl ?_
              refine ol_q (wn_some rfl rfl rfl hb6 rfl) (op_move (v := .int _ _) rfl) rfl ?_
              refine ol_q (wn_some rfl rfl rfl hb6 rfl) (op_eq rfl rfl) rfl ?_
              refine ol_q (wn_none rfl) (op_pick_t (v := .bool _) rfl hb6 rfl) rfl ?_
              refine ol_nil_then ?_
              refine cd_cond rfl (fun hb7 => ?_) (fun hb7 => ?_)
              · have hp7 := hb7
                (try simp only [decide_eq_true_eq, decide_eq_false_iff_not, Bool.not_eq_true', Bool.not_eq_false', ne_eq, Decidable.not_not] at hp7)
                have hlk : look t.first (v.who, v.slot / t.slots) = some F[i].target := first_look hw hR.f (by omega) (of_decide_eq_true ‹decide (F[i].who = v.who) = true›) (of_decide_eq_true hb7)
                refine cd_seq ?_
                refine cd_sr ?_   -- 10
                refine ol_q (wn_none rfl) (op_field fld_102_2 rfl) rfl ?_
                refine ol_q (wn_none rfl) (op_lda (L := rootC _) 0 ag_29 rfl rfl (firstC_af2 _) (by simp [firstC_len])) rfl ?_
                refine ol_q (wn_none rfl) (op_field fld_31_2 rfl) rfl ?_
                refine ol_q (wn_none rfl) (op_lda (L := rootC _) 2 ag_29 rfl rfl (voteC_af2 _) (by simp [voteC_len])) rfl ?_
                refine ol_q (wn_none rfl) (op_eqroot _ _ rB_29 rfl rfl) rfl ?_
                refine ol_nil_then ?_
                refine cd_cond rfl (fun hb8 => ?_) (fun hb8 => ?_)
                · have hp8 := hb8
                  (try simp only [decide_eq_true_eq, decide_eq_false_iff_not, Bool.not_eq_true', Bool.not_eq_false', ne_eq, Decidable.not_not] at hp8)
                  have hr0 := of_decide_eq_true hb8
                  refine cd_sr ?_   -- 11
                  refine ol_q (wn_none rfl) (op_assign (v := .int _ _) rfl) rfl ?_
                  refine ol_nil_then ?_
                  refine cd_ret ?_
                  refine px_thenR ?_
                  refine px_blockR ?_
                  refine px_thenR ?_
                  refine px_thenR ?_
                  refine px_blockR ?_
                  refine px_thenR ?_
                  have e : t.take v = (1, t) := by unfold TabS.take; rw [if_neg hcond, if_neg ho, hlk]; simp only [if_pos hr0]
                  have hw2 := hw.take v
                  rw [e] at hw2 ⊢
                  exact px_ret1 rfl (v := .int _ _) (l' := RTabObj p t :: l) rfl (fun _ s => Sat.rtabMk (t := t) hw2 hR (by simp) (by simp) (by simp) (by simp) ((s.del 2).del 0)) ⟨rfl, rfl⟩
                · have hp8 := hb8
                  (try simp only [decide_eq_true_eq, decide_eq_false_iff_not, Bool.not_eq_true', Bool.not_eq_false', ne_eq, Decidable.not_not] at hp8)
                  have hr0 := of_decide_eq_false hb8
                  refine cd_skip ?_
                  refine px_then ?_
                  refine cd_seq ?_   -- 12
                  refine cd_drawt (M := []) mx [] 7 (by kernel_rfl) rfl rfl ?_
                  dsimp only [List.take_succ_cons, List.take_zero, List.drop_succ_cons, List.drop_zero]
                  refine rg_q (wn_none rfl) (op_move (v := .pointer _) rfl) rfl rfl ?_
                  refine rg_q (wn_none rfl) (op_nilck rfl) rfl rfl ?_
                  refine rg_q (wn_none rfl) (op_field fld_100_5 rfl) rfl rfl ?_
                  refine rg_q (wn_none rfl) (op_ld 1 sc_52 rfl rfl rfl) rfl rfl ?_
                  refine rg_q (wn_none rfl) (op_field fld_31_0 rfl) rfl rfl ?_
                  refine rg_q (wn_none rfl) (op_ld 2 sc_3 rfl rfl (voteC_a0 _)) rfl rfl ?_
                  refine rg_q (wn_none rfl) (op_index _ sB_52 rfl rfl (Int.toNat_of_nonneg (by omega)).symm (rds_row 6 rfl rfl) rfl (by omega)) rfl rfl ?_
                  refine rg_tail0 ?_
                  refine ol_pull6 ?_
                  refine ol_iN (wn_none rfl) (os_stsw  sc_4 rfl rfl rfl (by omega) rfl rfl) ?_; rintro _ _ ⟨rfl, rfl⟩
                  refine ol_nil_then ?_
                  refine cd_sr ?_   -- 13
                  refine ol_q (wn_none rfl) (op_assign (v := .int _ _) rfl) rfl ?_
                  refine ol_nil_then ?_
                  refine cd_ret ?_
                  refine px_blockR ?_
                  refine px_thenR ?_
                  refine px_thenR ?_
                  refine px_blockR ?_
                  refine px_thenR ?_
                  have e : t.take v = (2, { t with out := t.out.set v.who.toNat true }) := by unfold TabS.take; rw [if_neg hcond, if_neg ho, hlk]; simp only [if_neg hr0]
                  have hw2 := hw.take v
                  rw [e] at hw2 ⊢
                  exact px_ret1 rfl (v := .int _ _) (l' := RTabObj p { t with out := t.out.set v.who.toNat true } :: l) rfl (fun _ s => Sat.rtabMk (t := { t with out := t.out.set v.who.toNat true }) hw2 { hR with o := by rw [hR.o] } (by simp) (by simp) (by simp) (by simp) ((((((s.del 3).del 1).pull 4).pull 4).pull 4).pull 4)) ⟨rfl, rfl⟩
              · have hp7 := hb7
                (try simp only [decide_eq_true_eq, decide_eq_false_iff_not, Bool.not_eq_true', Bool.not_eq_false', ne_eq, Decidable.not_not] at hp7)
                have hnm : ¬ F[i].epoch = v.slot / t.slots := of_decide_eq_false hb7
                refine cd_skip ?_
                refine px_blockN ?_
                refine px_then ?_
                refine cd_region ?_   -- 14
                refine ol_q (wn_none rfl) (op_add rfl rfl (by omega) (by omega)) rfl ?_
                refine ol_q (wn_none rfl) (op_move (v := .int _ _) rfl) rfl ?_
                refine ol_nil ?_
                refine px_loop2 (i + 1) ⟨by omega, fun j h h2 => by rcases Nat.lt_succ_iff_lt_or_eq.1 h2 with h3 | h3; exact hno j h h3; subst h3; exact fun h4 => hnm (by first | exact h4.1 | exact h4.2)⟩ (by (try dsimp only); omega) ⟨congrArg (Value.int .i64) (by simp), trivial⟩ ?_ (fun _ s => (s.del 0))
                repeat (first | exact kept_over | refine kept_upd rfl ?_ | refine kept_overS (by decide) ?_)
            · have hp6 := hb6
              (try simp only [decide_eq_true_eq, decide_eq_false_iff_not, Bool.not_eq_true', Bool.not_eq_false', ne_eq, Decidable.not_not] at hp6)
              have hnm : ¬ F[i].who = v.who := of_decide_eq_false hb6
              refine ol_skip (wn_some rfl rfl rfl hb6 rfl) rfl ?_
              refine ol_skip (wn_some rfl rfl rfl hb6 rfl) rfl ?_
              refine ol_skip (wn_some rfl rfl rfl hb6 rfl) rfl ?_
              refine ol_skip (wn_some rfl rfl rfl hb6 rfl) rfl ?_
              refine ol_q (wn_none rfl) (op_pick_f (v := .bool _) rfl hb6 rfl) rfl ?_
              refine ol_nil_then ?_
              refine cd_cond_f rfl rfl ?_
              refine cd_skip ?_
              refine px_blockN ?_
              refine px_then ?_
              refine cd_region ?_   -- 14
              refine ol_q (wn_none rfl) (op_add rfl rfl (by omega) (by omega)) rfl ?_
              refine ol_q (wn_none rfl) (op_move (v := .int _ _) rfl) rfl ?_
              refine ol_nil ?_
              refine px_loop2 (i + 1) ⟨by omega, fun j h h2 => by rcases Nat.lt_succ_iff_lt_or_eq.1 h2 with h3 | h3; exact hno j h h3; subst h3; exact fun h4 => hnm (by first | exact h4.1 | exact h4.2)⟩ (by (try dsimp only); omega) ⟨congrArg (Value.int .i64) (by simp), trivial⟩ ?_ (fun _ s => (s.del 0))
              repeat (first | exact kept_over | refine kept_upd rfl ?_ | refine kept_overS (by decide) ?_)
          · have hp5 := hb5
            (try simp only [decide_eq_true_eq, decide_eq_false_iff_not, Bool.not_eq_true', Bool.not_eq_false', ne_eq, Decidable.not_not] at hp5)
            have hlk : look t.first (v.who, v.slot / t.slots) = none := first_none hR.f (fun j hj => hno j hj (by omega))
            refine cd_exit ?_
            refine px_thenE ?_
            refine px_thenE ?_
            refine px_blockE ?_
            refine px_then ?_
            refine cd_pull2 ?_
            refine cd_seq ?_   -- 15
            refine cd_drawt (M := [_]) mx [11, 12] 13 (by kernel_rfl) rfl rfl ?_
            dsimp only [List.take_succ_cons, List.take_zero, List.drop_succ_cons, List.drop_zero]
            refine rg_q (wn_none rfl) (op_move (v := .pointer _) rfl) rfl rfl ?_
            refine rg_q (wn_none rfl) (op_move (v := .pointer _) rfl) rfl rfl ?_
            refine rg_q (wn_none rfl) (op_nilck rfl) rfl rfl ?_
            refine rg_q (wn_none rfl) (op_field fld_100_2 rfl) rfl rfl ?_
            refine rg_q (wn_none rfl) (op_ld 0 sc_98 rfl rfl rfl) rfl rfl ?_
            refine rg_q (wn_none rfl) (op_field fld_31_0 rfl) rfl rfl ?_
            refine rg_q (wn_none rfl) (op_ld 1 sc_3 rfl rfl (voteC_a0 _)) rfl rfl ?_
            refine rg_q (wn_none rfl) (op_move (v := .int _ _) rfl) rfl rfl ?_
            refine rg_q (wn_none rfl) (op_field fld_31_2 rfl) rfl rfl ?_
            refine rg_q (wn_none rfl) (op_lda (L := rootC _) 1 ag_29 rfl rfl (voteC_af2 _) (by simp [voteC_len])) rfl rfl ?_
            refine rg_q (wn_none rfl) (op_build (L := firstC _) (vs := [(0, .int _ _), (1, .int _ _), (2, .agg (rootC _).toArray)]) bB_102 rfl ⟨⟨rfl, by rw [firstC_len]; rfl⟩, ⟨rfl, by rw [firstC_len]; rfl⟩, ⟨by simp [Value.cells, rootC_len], by rw [firstC_len]; rfl⟩, trivial⟩ ((firstC_b0 _ _ _).trans ((firstC_b1 _ _ _).trans ((firstC_b2 _ _ _).trans rfl)))) rfl rfl ?_
            refine rg_i (wn_none rfl) (os_bslice (E := encFirst) [_] (ys := [_]) sB_98 zv_102 rfl rfl rfl rfl (by decide)) rfl rfl ?_; rintro _ _ ⟨ao1, rfl, rfl⟩; refine ⟨[_, _], rfl, ?_⟩
            refine rg_i (wn_none rfl) (os_pull1 (os_append (E := encFirst) rfl sB_98 zv_102 rfl rfl rfl (fun w s => (rds_row 1 rfl rfl) [] w s) rfl (by simp; omega) (by unfold maxLen; simp; omega))) rfl rfl ?_; rintro _ _ ⟨ao2, ac2, rfl, rfl⟩; refine ⟨[_, _], rfl, ?_⟩
            refine rg_tail2 ?_
            refine ol_q (wn_none rfl) (op_nilck rfl) rfl ?_
            refine ol_q (wn_none rfl) (op_field fld_100_2 rfl) rfl ?_
            refine ol_pull2 ?_
            refine ol_iN (wn_none rfl) (os_store (v := .slice _ _ _) sc_98 rfl rfl rfl rfl (Free.zero _) rfl) ?_; rintro _ _ ⟨rfl, rfl⟩
            refine ol_nil_then ?_
            refine cd_seq ?_
            refine cd_seq ?_   -- 16
            refine cd_draw (M := []) mx [] (by kernel_rfl) ?_
            refine rg_q (wn_none rfl) (op_move (v := .pointer _) rfl) rfl rfl ?_
            refine rg_q (wn_none rfl) (op_nilck rfl) rfl rfl ?_
            refine rg_q (wn_none rfl) (op_field fld_100_4 rfl) rfl rfl ?_
            refine rg_q (wn_none rfl) (op_ld 0 sc_52 rfl rfl rfl) rfl rfl ?_
            refine rg_q (wn_none rfl) (op_field fld_31_0 rfl) rfl rfl ?_
            refine rg_q (wn_none rfl) (op_ld 3 sc_3 rfl rfl (voteC_a0 _)) rfl rfl ?_
            refine rg_q (wn_none rfl) (op_index _ sB_52 rfl rfl (Int.toNat_of_nonneg (by omega)).symm (rds_row 5 rfl rfl) rfl (by omega)) rfl rfl ?_
            refine rg_q (wn_none rfl) (op_ldw sc_4 (rds_row 5 rfl rfl) rfl (by omega) rfl) rfl rfl ?_
            refine rg_q (wn_none rfl) (op_move (v := .bool _) rfl) rfl rfl ?_
            refine rg_split 94 rfl (fun hb9 => ?_) (fun hb9 => ?_)
            · have hp9 := hb9
              (try simp only [decide_eq_true_eq, decide_eq_false_iff_not, Bool.not_eq_true', Bool.not_eq_false', ne_eq, Decidable.not_not] at hp9)
              obtain ⟨u, hu0⟩ : ∃ u, t.latest[v.who.toNat]? = some (some u) := by
                have h1 := hb9
                simp only [hR.h, List.getElem_map] at h1
                obtain ⟨u, hu⟩ := Option.isSome_iff_exists.1 h1
                exact ⟨u, (List.getElem?_eq_some_iff).2 ⟨by omega, hu⟩⟩
              have hlv : t.latest.getD v.who.toNat none = some u := by rw [List.getD_eq_getElem?_getD, hu0]; rfl
              have hLu : Lv[v.who.toNat] = u := by simp only [hR.l, List.getElem_map]; rw [(List.getElem_eq_iff (by omega)).2 hu0]; rfl
              have husl := hw.sl u (List.mem_of_getElem? hu0)
              rw [← hLu] at husl
              refine rg_q (wn_some rfl rfl rfl hb9 rfl) (op_move (v := .pointer _) rfl) rfl rfl ?_
              refine rg_q (wn_some rfl rfl rfl hb9 rfl) (op_nilck rfl) rfl rfl ?_
              refine rg_q (wn_some rfl rfl rfl hb9 rfl) (op_field fld_100_3 rfl) rfl rfl ?_
              refine rg_q (wn_some rfl rfl rfl hb9 rfl) (op_ld 0 sc_46 rfl rfl rfl) rfl rfl ?_
              refine rg_q (wn_some rfl rfl rfl hb9 rfl) (op_field fld_31_0 rfl) rfl rfl ?_
              refine rg_q (wn_some rfl rfl rfl hb9 rfl) (op_ld 3 sc_3 rfl rfl (voteC_a0 _)) rfl rfl ?_
              refine rg_q (wn_some rfl rfl rfl hb9 rfl) (op_index _ sB_46 rfl rfl (Int.toNat_of_nonneg (by omega)).symm (rds_row 4 rfl rfl) rfl (by omega)) rfl rfl ?_
              refine rg_q (wn_some rfl rfl rfl hb9 rfl) (op_fielde fld_31_1 rfl (rds_row 4 rfl rfl) (by omega)) rfl rfl ?_
              refine rg_q (wn_some rfl rfl rfl hb9 rfl) (op_ldf 1 sc_3 (rds_row 4 rfl rfl) rfl (by omega) rfl (voteC_l1 _)) rfl rfl ?_
              refine rg_q (wn_some rfl rfl rfl hb9 rfl) (op_move (v := .pointer _) rfl) rfl rfl ?_
              refine rg_q (wn_some rfl rfl rfl hb9 rfl) (op_nilck rfl) rfl rfl ?_
              refine rg_q (wn_some rfl rfl rfl hb9 rfl) (op_field fld_100_1 rfl) rfl rfl ?_
              refine rg_q (wn_some rfl rfl rfl hb9 rfl) (op_ld 0 sc_3 rfl rfl rfl) rfl rfl ?_
              refine rg_q (wn_some rfl rfl rfl hb9 rfl) (op_quo rfl rfl (by omega) (by omega) (by omega)) rfl rfl ?_
              refine rg_q (wn_some rfl rfl rfl hb9 rfl) (op_move (v := .int _ _) rfl) rfl rfl ?_
              refine rg_q (wn_some rfl rfl rfl hb9 rfl) (op_gt rfl rfl) rfl rfl ?_
              refine rg_q (wn_none rfl) (op_pick_t (v := .bool _) rfl hb9 rfl) rfl rfl ?_
              refine rg_nil_then0 ?_
              refine cd_cond rfl (fun hb10 => ?_) (fun hb10 => ?_)
              · have hp10 := hb10
                (try simp only [decide_eq_true_eq, decide_eq_false_iff_not, Bool.not_eq_true', Bool.not_eq_false', ne_eq, Decidable.not_not] at hp10)
                have hlate := of_decide_eq_true hb10
                rw [hLu] at hlate
                refine cd_sr ?_   -- 17
                refine ol_q (wn_none rfl) (op_assign (v := .int _ _) rfl) rfl ?_
                refine ol_nil_then ?_
                refine cd_ret ?_
                refine px_thenR ?_
                have e : t.take v = (3, { t with first := ins t.first (v.who, v.slot / t.slots) v.target }) := by unfold TabS.take; rw [if_neg hcond, if_neg ho, hlk]; simp only [hlv, if_pos hlate]
                have hw2 := hw.take v
                rw [e] at hw2 ⊢
                exact px_ret1 rfl (v := .int _ _) (l' := RTabObj p { t with first := ins t.first (v.who, v.slot / t.slots) v.target } :: l) rfl (fun _ s => Sat.rtabMk (t := { t with first := ins t.first (v.who, v.slot / t.slots) v.target }) hw2 { hR with f := by rw [hR.f, ins_none hlk, List.map_append]; rfl } (by simp) (by simp) (by simp) (by simp) ((s.del 3).del 2)) ⟨rfl, rfl⟩
              · have hp10 := hb10
                (try simp only [decide_eq_true_eq, decide_eq_false_iff_not, Bool.not_eq_true', Bool.not_eq_false', ne_eq, Decidable.not_not] at hp10)
                have hlate := of_decide_eq_false hb10
                rw [hLu] at hlate
                refine cd_skip ?_
                refine px_then ?_
                refine cd_seq ?_   -- 18
                refine cd_drawt (M := []) mx [] 8 (by kernel_rfl) rfl rfl ?_
                dsimp only [List.take_succ_cons, List.take_zero, List.drop_succ_cons, List.drop_zero]
                refine rg_q (wn_none rfl) (op_move (v := .pointer _) rfl) rfl rfl ?_
                refine rg_q (wn_none rfl) (op_nilck rfl) rfl rfl ?_
                refine rg_q (wn_none rfl) (op_field fld_100_3 rfl) rfl rfl ?_
                refine rg_q (wn_none rfl) (op_ld 0 sc_46 rfl rfl rfl) rfl rfl ?_
                refine rg_q (wn_none rfl) (op_field fld_31_0 rfl) rfl rfl ?_
                refine rg_q (wn_none rfl) (op_ld 3 sc_3 rfl rfl (voteC_a0 _)) rfl rfl ?_
                refine rg_q (wn_none rfl) (op_lda (L := voteC _) 3 ag_31 rfl rfl (voteC_ta _) (by simp [voteC_len])) rfl rfl ?_
                refine rg_q (wn_none rfl) (op_index _ sB_46 rfl rfl (Int.toNat_of_nonneg (by omega)).symm (rds_row 4 rfl rfl) rfl (by omega)) rfl rfl ?_
                refine rg_tail0 ?_
                refine ol_pull4 ?_
                refine ol_iN (wn_none rfl) (os_staw ag_31 rfl rfl rfl rfl (by omega) rfl) ?_; rintro _ _ ⟨rfl, rfl⟩
                refine ol_nil_then ?_
                refine cd_seq ?_   -- 19
                refine cd_drawt (M := []) mx [] 7 (by kernel_rfl) rfl rfl ?_
                dsimp only [List.take_succ_cons, List.take_zero, List.drop_succ_cons, List.drop_zero]
                refine rg_q (wn_none rfl) (op_move (v := .pointer _) rfl) rfl rfl ?_
                refine rg_q (wn_none rfl) (op_nilck rfl) rfl rfl ?_
                refine rg_q (wn_none rfl) (op_field fld_100_4 rfl) rfl rfl ?_
                refine rg_q (wn_none rfl) (op_ld 1 sc_52 rfl rfl rfl) rfl rfl ?_
                refine rg_q (wn_none rfl) (op_field fld_31_0 rfl) rfl rfl ?_
                refine rg_q (wn_none rfl) (op_ld 4 sc_3 rfl rfl (voteC_a0 _)) rfl rfl ?_
                refine rg_q (wn_none rfl) (op_index _ sB_52 rfl rfl (Int.toNat_of_nonneg (by omega)).symm (rds_row 5 rfl rfl) rfl (by omega)) rfl rfl ?_
                refine rg_tail0 ?_
                refine ol_pull5 ?_
                refine ol_iN (wn_none rfl) (os_stsw  sc_4 rfl rfl rfl (by omega) rfl rfl) ?_; rintro _ _ ⟨rfl, rfl⟩
                refine ol_nil_then ?_
                refine cd_sr ?_   -- 20
                refine ol_q (wn_none rfl) (op_assign (v := .int _ _) rfl) rfl ?_
                refine ol_nil_then ?_
                refine cd_ret ?_
                have e : t.take v = (0, { t with first := ins t.first (v.who, v.slot / t.slots) v.target, latest := t.latest.set v.who.toNat (some v) }) := by unfold TabS.take; rw [if_neg hcond, if_neg ho, hlk]; simp only [hlv, if_neg hlate]
                have hw2 := hw.take v
                rw [e] at hw2 ⊢
                exact px_ret1 rfl (v := .int _ _) (l' := RTabObj p { t with first := ins t.first (v.who, v.slot / t.slots) v.target, latest := t.latest.set v.who.toNat (some v) } :: l) rfl (fun _ s => Sat.rtabMk (t := { t with first := ins t.first (v.who, v.slot / t.slots) v.target, latest := t.latest.set v.who.toNat (some v) }) hw2 ⟨by simp [hR.n], by rw [hR.f, ins_none hlk, List.map_append]; rfl, by rw [hR.l, List.map_set]; rfl, by rw [hR.h, List.map_set]; rfl, hR.o⟩ (by simp) (by simp) (by simp) (by simp) (((((((s.del 5).del 4).pull 4).pull 1).pull 2).pull 4).pull 4)) ⟨rfl, rfl⟩
            · have hp9 := hb9
              (try simp only [decide_eq_true_eq, decide_eq_false_iff_not, Bool.not_eq_true', Bool.not_eq_false', ne_eq, Decidable.not_not] at hp9)
              have hlv : t.latest.getD v.who.toNat none = none := by
                have h1 := hb9
                simp only [hR.h, List.getElem_map] at h1
                rw [List.getD_eq_getElem?_getD, List.getElem?_eq_getElem (by omega)]
                simpa using h1
              refine rg_skip (wn_some rfl rfl rfl hb9 rfl) rfl ?_
              refine rg_skip (wn_some rfl rfl rfl hb9 rfl) rfl ?_
              refine rg_skip (wn_some rfl rfl rfl hb9 rfl) rfl ?_
              refine rg_skip (wn_some rfl rfl rfl hb9 rfl) rfl ?_
              refine rg_skip (wn_some rfl rfl rfl hb9 rfl) rfl ?_
              refine rg_skip (wn_some rfl rfl rfl hb9 rfl) rfl ?_
              refine rg_skip (wn_some rfl rfl rfl hb9 rfl) rfl ?_
              refine rg_skip (wn_some rfl rfl rfl hb9 rfl) rfl ?_
              refine rg_skip (wn_some rfl rfl rfl hb9 rfl) rfl ?_
              refine rg_skip (wn_some rfl rfl rfl hb9 rfl) rfl ?_
              refine rg_skip (wn_some rfl rfl rfl hb9 rfl) rfl ?_
              refine rg_skip (wn_some rfl rfl rfl hb9 rfl) rfl ?_
              refine rg_skip (wn_some rfl rfl rfl hb9 rfl) rfl ?_
              refine rg_skip (wn_some rfl rfl rfl hb9 rfl) rfl ?_
              refine rg_skip (wn_some rfl rfl rfl hb9 rfl) rfl ?_
              refine rg_skip (wn_some rfl rfl rfl hb9 rfl) rfl ?_
              refine rg_q (wn_none rfl) (op_pick_f (v := .bool _) rfl hb9 rfl) rfl rfl ?_
              refine rg_nil_then0 ?_
              refine cd_cond_f rfl rfl ?_
              refine cd_skip ?_
              refine px_then ?_
              refine cd_seq ?_   -- 18
              refine cd_drawt (M := []) mx [] 8 (by kernel_rfl) rfl rfl ?_
              dsimp only [List.take_succ_cons, List.take_zero, List.drop_succ_cons, List.drop_zero]
              refine rg_q (wn_none rfl) (op_move (v := .pointer _) rfl) rfl rfl ?_
              refine rg_q (wn_none rfl) (op_nilck rfl) rfl rfl ?_
              refine rg_q (wn_none rfl) (op_field fld_100_3 rfl) rfl rfl ?_
              refine rg_q (wn_none rfl) (op_ld 0 sc_46 rfl rfl rfl) rfl rfl ?_
              refine rg_q (wn_none rfl) (op_field fld_31_0 rfl) rfl rfl ?_
              refine rg_q (wn_none rfl) (op_ld 3 sc_3 rfl rfl (voteC_a0 _)) rfl rfl ?_
              refine rg_q (wn_none rfl) (op_lda (L := voteC _) 3 ag_31 rfl rfl (voteC_ta _) (by simp [voteC_len])) rfl rfl ?_
              refine rg_q (wn_none rfl) (op_index _ sB_46 rfl rfl (Int.toNat_of_nonneg (by omega)).symm (rds_row 4 rfl rfl) rfl (by omega)) rfl rfl ?_
              refine rg_tail0 ?_
              refine ol_pull4 ?_
              refine ol_iN (wn_none rfl) (os_staw ag_31 rfl rfl rfl rfl (by omega) rfl) ?_; rintro _ _ ⟨rfl, rfl⟩
              refine ol_nil_then ?_
              refine cd_seq ?_   -- 19
              refine cd_drawt (M := []) mx [] 7 (by kernel_rfl) rfl rfl ?_
              dsimp only [List.take_succ_cons, List.take_zero, List.drop_succ_cons, List.drop_zero]
              refine rg_q (wn_none rfl) (op_move (v := .pointer _) rfl) rfl rfl ?_
              refine rg_q (wn_none rfl) (op_nilck rfl) rfl rfl ?_
              refine rg_q (wn_none rfl) (op_field fld_100_4 rfl) rfl rfl ?_
              refine rg_q (wn_none rfl) (op_ld 1 sc_52 rfl rfl rfl) rfl rfl ?_
              refine rg_q (wn_none rfl) (op_field fld_31_0 rfl) rfl rfl ?_
              refine rg_q (wn_none rfl) (op_ld 4 sc_3 rfl rfl (voteC_a0 _)) rfl rfl ?_
              refine rg_q (wn_none rfl) (op_index _ sB_52 rfl rfl (Int.toNat_of_nonneg (by omega)).symm (rds_row 5 rfl rfl) rfl (by omega)) rfl rfl ?_
              refine rg_tail0 ?_
              refine ol_pull5 ?_
              refine ol_iN (wn_none rfl) (os_stsw  sc_4 rfl rfl rfl (by omega) rfl rfl) ?_; rintro _ _ ⟨rfl, rfl⟩
              refine ol_nil_then ?_
              refine cd_sr ?_   -- 20
              refine ol_q (wn_none rfl) (op_assign (v := .int _ _) rfl) rfl ?_
              refine ol_nil_then ?_
              refine cd_ret ?_
              have e : t.take v = (0, { t with first := ins t.first (v.who, v.slot / t.slots) v.target, latest := t.latest.set v.who.toNat (some v) }) := by unfold TabS.take; rw [if_neg hcond, if_neg ho, hlk]; simp only [hlv]
              have hw2 := hw.take v
              rw [e] at hw2 ⊢
              exact px_ret1 rfl (v := .int _ _) (l' := RTabObj p { t with first := ins t.first (v.who, v.slot / t.slots) v.target, latest := t.latest.set v.who.toNat (some v) } :: l) rfl (fun _ s => Sat.rtabMk (t := { t with first := ins t.first (v.who, v.slot / t.slots) v.target, latest := t.latest.set v.who.toNat (some v) }) hw2 ⟨by simp [hR.n], by rw [hR.f, ins_none hlk, List.map_append]; rfl, by rw [hR.l, List.map_set]; rfl, by rw [hR.h, List.map_set]; rfl, hR.o⟩ (by simp) (by simp) (by simp) (by simp) (((((((s.del 5).del 4).pull 4).pull 1).pull 2).pull 4).pull 4)) ⟨rfl, rfl⟩

def fkeep (slot k : Int) (f : First) : Bool := decide (slot < 0) || decide (slot / k ≤ f.epoch)
def fsel (F : List First) (slot k : Int) (i : Nat) : List First := (F.take i).filter (fkeep slot k)
theorem fsel_all (F : List First) (slot k : Int) : fsel F slot k F.length = F.filter (fkeep slot k) := by unfold fsel; rw [List.take_length]
theorem fsel_succ (F : List First) (slot k : Int) (i : Nat) (hi : i < F.length) : fsel F slot k (i + 1) = if fkeep slot k F[i] = true then fsel F slot k i ++ [F[i]] else fsel F slot k i := by
  unfold fsel
  rw [List.take_add_one, List.getElem?_eq_getElem hi, Option.toList_some, List.filter_append]
  by_cases h : fkeep slot k F[i] = true
  · rw [if_pos h, List.filter_cons_of_pos h]; rfl
  · rw [if_neg h, List.filter_cons_of_neg h]; simp
theorem fsel_len (F : List First) (slot k : Int) (i : Nat) : (fsel F slot k i).length ≤ F.length := Nat.le_trans (List.length_filter_le _ _) (by simp; omega)
theorem fkeep_neg {slot k : Int} (h : slot < 0) (L : List ((Int × Int) × Root)) : (L.map toFirst).filter (fkeep slot k) = L.map toFirst := List.filter_eq_self.2 fun f _ => by simp [fkeep, h]
theorem fkeep_pos {slot k : Int} (h : ¬ slot < 0) (L : List ((Int × Int) × Root)) : (L.map toFirst).filter (fkeep slot k) = (L.filter fun p => decide (slot / k ≤ p.1.2)).map toFirst := by
  rw [List.filter_map]
  congr 1
  apply List.filter_congr
  intro p _
  simp [fkeep, h, toFirst] <;> rfl

set_option maxRecDepth 100000 in
set_option maxHeartbeats 1000000 in
theorem RForget_calls {w0 w : World} {l : List HProp} (p : Nat) (t : TabS) (slot : Int) (hs : Sat w0 w ((RTabObj p t) :: l)) (hs0 : slot ≤ 9223372036854775807) :
    Calls Try.prog 26 #[.pointer (some ⟨p, 0, none⟩), .int .i64 slot] w (Ret w0 fun r l' => r = .tuple #[] ∧ l' = RTabObj p (t.forget slot) :: l) := by
  obtain ⟨a1, c1, a2, c2, a3, c3, a4, c4, N, F, Lv, Hs, Ou, hw, hR, hs⟩ := hs.rtabOpen
  have hs1 := hw.s1; have hs2 := hw.s2; have hn1 := hw.n1; have hlo := hw.lo; have hN := hR.n; have hFl : F.length ≤ 64 * 1073741825 := by rw [hR.f, List.length_map]; exact hw.first_len
  have hLl : Lv.length = N := by rw [hR.l, hR.n, List.length_map]
  have hHl : Hs.length = N := by rw [hR.h, hR.n, List.length_map]
  have hOl : Ou.length = N := by rw [hR.o, hR.n]; exact hlo
  refine calls_enter Try.func26 rfl rfl rfl hs ?_
  refine cd_sr ?_   -- 0
  refine ol_q (wn_none rfl) (op_assign (v := .slice _ _ _) rfl) rfl ?_
  refine ol_nil_then ?_
  refine cd_seq ?_
  refine cd_sr ?_   -- 1
  refine ol_q (wn_none rfl) (op_move (v := .pointer _) rfl) rfl ?_
  refine ol_q (wn_none rfl) (op_nilck rfl) rfl ?_
  refine ol_q (wn_none rfl) (op_field fld_100_2 rfl) rfl ?_
  refine ol_q (wn_none rfl) (op_ld 0 sc_98 rfl rfl rfl) rfl ?_
  refine ol_q (wn_none rfl) (op_len_slice Try.underlying98 rfl) rfl ?_
  refine ol_q (wn_none rfl) (op_move (v := .int _ _) rfl) rfl ?_
  refine ol_nil_then ?_
  refine cd_block ?_
  refine cd_loop2 (α := Nat × Option Addr × Nat) [(4, 4), (6, 6), (12, 33)] (fun x => [(4, .slice x.2.1 (fsel F slot t.slots x.1).length x.2.2), (12, .int .i64 (x.1 : Int))]) (fun x => Row 102 encFirst (.slice x.2.1 (fsel F slot t.slots x.1).length x.2.2) (fsel F slot t.slots x.1) :: Blk p (.cells #[.int .i64 (N : Int), .int .i64 t.slots, .slice a1 F.length c1, .slice a2 Lv.length c2, .slice a3 Hs.length c3, .slice a4 Ou.length c4] 100 (0, 0)) :: Row 102 encFirst (.slice a1 F.length c1) F :: Row 31 encVote (.slice a2 Lv.length c2) Lv :: Row 4 encBool (.slice a3 Hs.length c3) Hs :: Row 4 encBool (.slice a4 Ou.length c4) Ou :: l) (fun x => x.1 ≤ F.length) (fun x => F.length - x.1) (0, none, 0) (Nat.zero_le _) ⟨rfl, rfl, trivial⟩ (fun _ s => s.rowNil) ?_
  rintro ⟨i, vo, vc⟩ hi f; (try dsimp only at hi ⊢); have hfl := fsel_len F slot t.slots i
  refine cd_sr ?_   -- 2
  refine ol_q (wn_none rfl) (op_lt rfl rfl) rfl ?_
  refine ol_nil_then ?_
  refine cd_seq ?_
  refine cd_cond rfl (fun hb1 => ?_) (fun hb1 => ?_)
  · have hp1 := hb1
    (try simp only [decide_eq_true_eq, decide_eq_false_iff_not, Bool.not_eq_true', Bool.not_eq_false', ne_eq, Decidable.not_not] at hp1)
    refine cd_skip ?_
    refine px_then ?_
    refine cd_seq ?_
    refine cd_block ?_
    refine cd_sr ?_   -- 3
    refine ol_q (wn_none rfl) (op_index _ sB_98 rfl rfl rfl (rds_row 2 rfl rfl) rfl (by omega)) rfl ?_
    refine ol_q (wn_none rfl) (op_ldaw (L := firstC _) ag_102 (rds_row 2 rfl rfl) rfl (by omega) rfl (firstC_ta _)) rfl ?_
    refine ol_i (wn_none rfl) (os_alloc (cs := (firstC First.zero).toArray) zB_102 (by kernel_rfl)) rfl ?_; rintro _ _ ⟨bx1, rfl, rfl⟩
    refine ol_iN (wn_none rfl) (os_storew (firstC _) ag_102 rfl rfl (firstC_len _) (firstC_one _) (by simp [firstC_len]) (Free.zero _)) ?_; rintro _ _ ⟨rfl, rfl⟩
    refine ol_nil_then ?_
    refine cd_seq ?_   -- 4
    refine cd_draw (M := []) mx [] (by kernel_rfl) ?_
    refine rg_q (wn_none rfl) (op_move (v := .int _ _) rfl) rfl rfl ?_
    refine rg_q (wn_none rfl) (op_lt rfl rfl) rfl rfl ?_
    refine rg_q (wn_none rfl) (op_move (v := .bool _) rfl) rfl rfl ?_
    refine rg_split 18 rfl (fun hb2 => ?_) (fun hb2 => ?_)
    · have hp2 := hb2
      (try simp only [decide_eq_true_eq, decide_eq_false_iff_not, Bool.not_eq_true', Bool.not_eq_false', ne_eq, Decidable.not_not] at hp2)
      have hneg := of_decide_eq_true hb2
      refine rg_skip (wn_some rfl rfl rfl hb2 rfl) rfl ?_
      refine rg_skip (wn_some rfl rfl rfl hb2 rfl) rfl ?_
      refine rg_skip (wn_some rfl rfl rfl hb2 rfl) rfl ?_
      refine rg_skip (wn_some rfl rfl rfl hb2 rfl) rfl ?_
      refine rg_skip (wn_some rfl rfl rfl hb2 rfl) rfl ?_
      refine rg_skip (wn_some rfl rfl rfl hb2 rfl) rfl ?_
      refine rg_skip (wn_some rfl rfl rfl hb2 rfl) rfl ?_
      refine rg_skip (wn_some rfl rfl rfl hb2 rfl) rfl ?_
      refine rg_skip (wn_some rfl rfl rfl hb2 rfl) rfl ?_
      refine rg_q (wn_none rfl) (op_pick_t (v := .bool _) rfl hb2 rfl) rfl rfl ?_
      refine rg_nil_then0 ?_
      refine cd_cond_t rfl rfl ?_
      refine cd_region ?_   -- 5
      refine ol_q (wn_none rfl) (op_move (v := .slice _ _ _) rfl) rfl ?_
      refine ol_q (wn_none rfl) (op_lda (L := firstC _) 0 ag_102 rfl rfl (firstC_ta _) (by simp [firstC_len])) rfl ?_
      refine ol_i (wn_none rfl) (os_bslice (E := encFirst) [_] (ys := [_]) sB_98 zv_102 rfl rfl rfl rfl (by decide)) rfl ?_; rintro _ _ ⟨ao1, rfl, rfl⟩
      refine ol_pull2 ?_
      refine ol_i (wn_none rfl) (os_append (E := encFirst) rfl sB_98 zv_102 rfl rfl rfl (fun w s => (rds_row 1 rfl rfl) [] w s) rfl (by simp; omega) (by unfold maxLen; simp; omega)) rfl ?_; rintro _ _ ⟨ao2, ac2, rfl, rfl⟩
      refine ol_q (wn_none rfl) (op_assign (v := .slice _ _ _) rfl) rfl ?_
      refine ol_nil ?_
      refine px_blockN ?_
      refine px_then ?_
      refine cd_region ?_   -- 6
      refine ol_q (wn_none rfl) (op_add rfl rfl (by omega) (by omega)) rfl ?_
      refine ol_q (wn_none rfl) (op_move (v := .int _ _) rfl) rfl ?_
      refine ol_nil ?_
      have e1 : fsel F slot t.slots (i + 1) = fsel F slot t.slots i ++ [F[i]] := by rw [fsel_succ F slot t.slots i (by omega), if_pos (by simp only [fkeep, Bool.or_eq_true, decide_eq_true_eq]; omega)]
      refine px_loop2 (i + 1, ao2, ac2) (by dsimp only; omega) (by (try dsimp only); omega) ⟨congrArg (fun q => Value.slice ao2 (List.length q) ac2) e1.symm, congrArg (Value.int .i64) (by simp), trivial⟩ ?_ (fun _ s => (by rw [e1]; exact ((s.del 2).del 1)))
      repeat (first | exact kept_over | refine kept_upd rfl ?_ | refine kept_overS (by decide) ?_)
    · have hp2 := hb2
      (try simp only [decide_eq_true_eq, decide_eq_false_iff_not, Bool.not_eq_true', Bool.not_eq_false', ne_eq, Decidable.not_not] at hp2)
      have hneg := of_decide_eq_false hb2
      refine rg_q (wn_some rfl rfl rfl hb2 rfl) (op_field fld_102_1 rfl) rfl rfl ?_
      refine rg_q (wn_some rfl rfl rfl hb2 rfl) (op_ld 0 sc_3 rfl rfl (firstC_a1 _)) rfl rfl ?_
      refine rg_q (wn_some rfl rfl rfl hb2 rfl) (op_move (v := .int _ _) rfl) rfl rfl ?_
      refine rg_q (wn_some rfl rfl rfl hb2 rfl) (op_move (v := .pointer _) rfl) rfl rfl ?_
      refine rg_q (wn_some rfl rfl rfl hb2 rfl) (op_nilck rfl) rfl rfl ?_
      refine rg_q (wn_some rfl rfl rfl hb2 rfl) (op_field fld_100_1 rfl) rfl rfl ?_
      refine rg_q (wn_some rfl rfl rfl hb2 rfl) (op_ld 2 sc_3 rfl rfl rfl) rfl rfl ?_
      refine rg_q (wn_some rfl rfl rfl hb2 rfl) (op_quo rfl rfl (by omega) (by omega) (by omega)) rfl rfl ?_
      refine rg_q (wn_some rfl rfl rfl hb2 rfl) (op_ge rfl rfl) rfl rfl ?_
      refine rg_q (wn_none rfl) (op_pick_f (v := .bool _) rfl hb2 rfl) rfl rfl ?_
      refine rg_nil_then0 ?_
      refine cd_cond rfl (fun hb3 => ?_) (fun hb3 => ?_)
      · have hp3 := hb3
        (try simp only [decide_eq_true_eq, decide_eq_false_iff_not, Bool.not_eq_true', Bool.not_eq_false', ne_eq, Decidable.not_not] at hp3)
        have hke := of_decide_eq_true hb3
        refine cd_region ?_   -- 5
        refine ol_q (wn_none rfl) (op_move (v := .slice _ _ _) rfl) rfl ?_
        refine ol_q (wn_none rfl) (op_lda (L := firstC _) 0 ag_102 rfl rfl (firstC_ta _) (by simp [firstC_len])) rfl ?_
        refine ol_i (wn_none rfl) (os_bslice (E := encFirst) [_] (ys := [_]) sB_98 zv_102 rfl rfl rfl rfl (by decide)) rfl ?_; rintro _ _ ⟨ao3, rfl, rfl⟩
        refine ol_pull2 ?_
        refine ol_i (wn_none rfl) (os_append (E := encFirst) rfl sB_98 zv_102 rfl rfl rfl (fun w s => (rds_row 1 rfl rfl) [] w s) rfl (by simp; omega) (by unfold maxLen; simp; omega)) rfl ?_; rintro _ _ ⟨ao4, ac4, rfl, rfl⟩
        refine ol_q (wn_none rfl) (op_assign (v := .slice _ _ _) rfl) rfl ?_
        refine ol_nil ?_
        refine px_blockN ?_
        refine px_then ?_
        refine cd_region ?_   -- 6
        refine ol_q (wn_none rfl) (op_add rfl rfl (by omega) (by omega)) rfl ?_
        refine ol_q (wn_none rfl) (op_move (v := .int _ _) rfl) rfl ?_
        refine ol_nil ?_
        have e1 : fsel F slot t.slots (i + 1) = fsel F slot t.slots i ++ [F[i]] := by rw [fsel_succ F slot t.slots i (by omega), if_pos (by simp only [fkeep, Bool.or_eq_true, decide_eq_true_eq]; omega)]
        refine px_loop2 (i + 1, ao4, ac4) (by dsimp only; omega) (by (try dsimp only); omega) ⟨congrArg (fun q => Value.slice ao4 (List.length q) ac4) e1.symm, congrArg (Value.int .i64) (by simp), trivial⟩ ?_ (fun _ s => (by rw [e1]; exact ((s.del 2).del 1)))
        repeat (first | exact kept_over | refine kept_upd rfl ?_ | refine kept_overS (by decide) ?_)
      · have hp3 := hb3
        (try simp only [decide_eq_true_eq, decide_eq_false_iff_not, Bool.not_eq_true', Bool.not_eq_false', ne_eq, Decidable.not_not] at hp3)
        have hke := of_decide_eq_false hb3
        refine cd_skip ?_
        refine px_blockN ?_
        refine px_then ?_
        refine cd_region ?_   -- 6
        refine ol_q (wn_none rfl) (op_add rfl rfl (by omega) (by omega)) rfl ?_
        refine ol_q (wn_none rfl) (op_move (v := .int _ _) rfl) rfl ?_
        refine ol_nil ?_
        have e1 : fsel F slot t.slots (i + 1) = fsel F slot t.slots i := by rw [fsel_succ F slot t.slots i (by omega), if_neg (by simp only [fkeep, Bool.or_eq_true, decide_eq_true_eq]; omega)]
        refine px_loop2 (i + 1, vo, vc) (by dsimp only; omega) (by (try dsimp only); omega) ⟨congrArg (fun q => Value.slice vo (List.length q) vc) e1.symm, congrArg (Value.int .i64) (by simp), trivial⟩ ?_ (fun _ s => (by rw [e1]; exact (s.del 0)))
        repeat (first | exact kept_over | refine kept_upd rfl ?_ | refine kept_overS (by decide) ?_)
  · have hp1 := hb1
    (try simp only [decide_eq_true_eq, decide_eq_false_iff_not, Bool.not_eq_true', Bool.not_eq_false', ne_eq, Decidable.not_not] at hp1)
    refine cd_exit ?_
    refine px_thenE ?_
    refine px_thenE ?_
    refine px_blockE ?_
    refine px_then ?_
    refine cd_region ?_   -- 7
    refine ol_q (wn_none rfl) (op_move (v := .pointer _) rfl) rfl ?_
    refine ol_q (wn_none rfl) (op_move (v := .slice _ _ _) rfl) rfl ?_
    refine ol_q (wn_none rfl) (op_nilck rfl) rfl ?_
    refine ol_q (wn_none rfl) (op_field fld_100_2 rfl) rfl ?_
    refine ol_pull1 ?_
    refine ol_iN (wn_none rfl) (os_store (v := .slice _ _ _) sc_98 rfl rfl rfl rfl (Free.zero _) rfl) ?_; rintro _ _ ⟨rfl, rfl⟩
    refine ol_nil ?_
    have ei : i = F.length := by omega
    subst ei
    rw [fsel_all, hR.f]
    by_cases hneg : slot < 0
    · have e : t.forget slot = t := by unfold TabS.forget; rw [if_pos hneg]
      rw [e, fkeep_neg hneg]
      exact px_end0 (l' := RTabObj p t :: l) rfl (fun _ s => Sat.rtabMk (t := t) hw { hR with f := rfl } (by simp) (by simp) (by simp) (by simp) (s.del 2)) ⟨rfl, rfl⟩
    · have e : t.forget slot = { t with first := t.first.filter fun p => decide (slot / t.slots ≤ p.1.2) } := by unfold TabS.forget; rw [if_neg hneg]
      have hwf := hw.forget slot
      rw [e] at hwf ⊢
      rw [fkeep_pos hneg]
      exact px_end0 (l' := RTabObj p _ :: l) rfl (fun _ s => Sat.rtabMk (t := { t with first := t.first.filter fun p => decide (slot / t.slots ≤ p.1.2) }) hwf { hR with f := rfl } (by simp) (by simp) (by simp) (by simp) (s.del 2)) ⟨rfl, rfl⟩
end Go.SL

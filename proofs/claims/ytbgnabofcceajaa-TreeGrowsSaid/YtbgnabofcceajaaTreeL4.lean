import Derived.Test.YtbgnabofcceajaaTreeL2
import Derived.Test.YtbgnabofcceajaaMTree3
import Derived.Test.YtbgnabofcceajaaRoots
set_option linter.unusedVariables false
set_option linter.unusedSimpArgs false
namespace Go.SL
open Go.Proofs

theorem RUpQ_calls {w0 w : World} {l : List HProp} {p : Nat} {t : TreeS} {a1 a2 a3 : Option Addr} {c1 c2 c3 : Nat} {R : List Root} {Sl : List Int} {Pa : List Root} {i : Int} {l2 : List HProp} (hs : Sat w0 w l) (hw : t.WF) (hR : RTreeOf t R Sl Pa)
    (h1 : ∀ w, Sat w0 w l → Sat w0 w (Blk p (.cells #[.slice a1 R.length c1, .slice a2 Sl.length c2, .slice a3 Pa.length c3, .int .i64 t.most] 73 (0, 0)) :: Row 30 encRoot (.slice a1 R.length c1) R :: Row 3 encI64 (.slice a2 Sl.length c2) Sl :: Row 30 encRoot (.slice a3 Pa.length c3) Pa :: l2)) (h2 : ∀ w, Sat w0 w (Blk p (.cells #[.slice a1 R.length c1, .slice a2 Sl.length c2, .slice a3 Pa.length c3, .int .i64 t.most] 73 (0, 0)) :: Row 30 encRoot (.slice a1 R.length c1) R :: Row 3 encI64 (.slice a2 Sl.length c2) Sl :: Row 30 encRoot (.slice a3 Pa.length c3) Pa :: l2) → Sat w0 w l) :
    Calls Try.prog 48 #[.pointer (some ⟨p, 0, none⟩), .int .i64 i] w (Ret w0 fun v l' => v = .int .i64 (t.up i) ∧ l' = l) :=
  (RUpO_calls p t a1 a2 a3 c1 c2 c3 R Sl Pa i (h1 w hs) hw hR).mono fun e w' ⟨v, l', he, ⟨hv, hl⟩, s⟩ => ⟨v, l, he, ⟨hv, rfl⟩, h2 _ (hl ▸ s)⟩

set_option maxRecDepth 100000 in
set_option maxHeartbeats 1000000 in
theorem TreeSame_calls {w0 w : World} {l : List HProp} (p q : Nat) (t : TreeS) (hs : Sat w0 w ((TreeObj p t) :: (RTreeObj q t) :: l))  :
    Calls Try.prog 31 #[.pointer (some ⟨p, 0, none⟩), .pointer (some ⟨q, 0, none⟩)] w (Ret w0 fun v l' => v = .bool true ∧ l' = TreeObj p t :: RTreeObj q t :: l) := by
  have hs := hs.pull 1
  obtain ⟨a1, c1, a2, c2, a3, c3, R, Sl, Pa, hw, hR, hs⟩ := hs.rtreeOpen
  have hm1 := hw.m1; have hm2 := hw.m2; have hle := hw.le; have hne := hw.ne
  have hRl : R.length = t.nodes.length := by rw [hR.r, List.length_map]
  have hSl : Sl.length = t.nodes.length := by rw [hR.s, List.length_map]
  have hPl : Pa.length = t.nodes.length := by rw [hR.p]; unfold parR; rw [List.length_map]
  refine calls_enter Try.func31 rfl rfl rfl hs ?_
  refine cd_sr ?_   -- 0
  refine ol_q (wn_none rfl) (op_assign (v := .bool _) rfl) rfl ?_
  refine ol_nil_then ?_
  refine cd_seq ?_
  refine cd_pull4 ?_
  refine cd_seq ?_   -- 1
  refine cd_drawe (M := [_]) mx [1, 10, 25, 30] ?_
  -- 0
  refine et_quiet 0 (by kernel_rfl) rfl (by kernel_rfl) (wn_none rfl) (op_move (v := .pointer _) rfl) rfl ?_
  -- 2
  refine et_quiet 2 (by kernel_rfl) rfl (by kernel_rfl) (wn_none rfl) (op_move (v := .pointer _) rfl) rfl ?_
  -- 3
  refine et_quiet 3 (by kernel_rfl) rfl (by kernel_rfl) (wn_none rfl) (op_nilck rfl) rfl ?_
  -- 4
  refine et_quiet 4 (by kernel_rfl) rfl (by kernel_rfl) (wn_none rfl) (op_field fld_73_0 rfl) rfl ?_
  -- 5
  refine et_quiet 5 (by kernel_rfl) rfl (by kernel_rfl) (wn_none rfl) (op_ld 0 sc_45 rfl rfl rfl) rfl ?_
  -- 6
  refine et_quiet 6 (by kernel_rfl) rfl (by kernel_rfl) (wn_none rfl) (op_len_slice Try.underlying45 rfl) rfl ?_
  refine et_1 (i := 1) (by kernel_rfl) ?_
  refine ei_i rfl rfl (wn_none rfl) (os_call cb_17 rfl (fun w s => Len_calls _ _  s )) rfl ?_; rintro _ _ ⟨rfl, rfl⟩; refine ⟨[_], rfl, ?_⟩
  -- 7
  refine et_quiet 7 (by kernel_rfl) rfl (by kernel_rfl) (wn_none rfl) (op_ne rfl rfl) rfl ?_
  -- 8
  refine et_quiet 8 (by kernel_rfl) rfl (by kernel_rfl) (wn_none rfl) (op_move (v := .bool _) rfl) rfl ?_
  refine et_split 16 rfl (fun hb1 => ?_) (fun hb1 => ?_)
  · have hp1 := hb1
    (try simp only [decide_eq_true_eq, decide_eq_false_iff_not, Bool.not_eq_true', Bool.not_eq_false', ne_eq, Decidable.not_not] at hp1)
    exact absurd hb1 (by simp [hRl])
  · have hp1 := hb1
    (try simp only [decide_eq_true_eq, decide_eq_false_iff_not, Bool.not_eq_true', Bool.not_eq_false', ne_eq, Decidable.not_not] at hp1)
    -- 9
    refine et_quiet 9 (by kernel_rfl) rfl (by kernel_rfl) (wn_some rfl rfl rfl hb1 rfl) (op_move (v := .pointer _) rfl) rfl ?_
    -- 11
    refine et_quiet 11 (by kernel_rfl) rfl (by kernel_rfl) (wn_some rfl rfl rfl hb1 rfl) (op_move (v := .pointer _) rfl) rfl ?_
    -- 12
    refine et_quiet 12 (by kernel_rfl) rfl (by kernel_rfl) (wn_some rfl rfl rfl hb1 rfl) (op_nilck rfl) rfl ?_
    -- 13
    refine et_quiet 13 (by kernel_rfl) rfl (by kernel_rfl) (wn_some rfl rfl rfl hb1 rfl) (op_field fld_73_3 rfl) rfl ?_
    -- 14
    refine et_quiet 14 (by kernel_rfl) rfl (by kernel_rfl) (wn_some rfl rfl rfl hb1 rfl) (op_ld 0 sc_3 rfl rfl rfl) rfl ?_
    -- 15
    refine et_quiet 15 (by kernel_rfl) rfl (by kernel_rfl) (wn_some rfl rfl rfl hb1 rfl) (op_move (v := .pointer _) rfl) rfl ?_
    -- 16
    refine et_quiet 16 (by kernel_rfl) rfl (by kernel_rfl) (wn_some rfl rfl rfl hb1 rfl) (op_nilck rfl) rfl ?_
    -- 17
    refine et_quiet 17 (by kernel_rfl) rfl (by kernel_rfl) (wn_some rfl rfl rfl hb1 rfl) (op_field fld_73_0 rfl) rfl ?_
    -- 18
    refine et_quiet 18 (by kernel_rfl) rfl (by kernel_rfl) (wn_some rfl rfl rfl hb1 rfl) (op_ld 0 sc_45 rfl rfl rfl) rfl ?_
    -- 19
    refine et_quiet 19 (by kernel_rfl) rfl (by kernel_rfl) (wn_some rfl rfl rfl hb1 rfl) (op_len_slice Try.underlying45 rfl) rfl ?_
    -- 20
    refine et_quiet 20 (by kernel_rfl) rfl (by kernel_rfl) (wn_some rfl rfl rfl hb1 rfl) (op_sub rfl rfl (by omega) (by omega)) rfl ?_
    refine et_1 (i := 10) (by kernel_rfl) ?_
    refine ei_i rfl rfl (wn_some rfl rfl rfl hb1 rfl) (os_call cb_23 rfl (fun w s => Room_calls _ _  s )) rfl ?_; rintro _ _ ⟨rfl, rfl⟩; refine ⟨[_], rfl, ?_⟩
    -- 21
    refine et_quiet 21 (by kernel_rfl) rfl (by kernel_rfl) (wn_some rfl rfl rfl hb1 rfl) (op_ne rfl rfl) rfl ?_
    -- 22
    refine et_quiet 22 (by kernel_rfl) rfl (by kernel_rfl) (wn_none rfl) (op_pick_f (v := .bool _) rfl hb1 rfl) rfl ?_
    -- 23
    refine et_quiet 23 (by kernel_rfl) rfl (by kernel_rfl) (wn_none rfl) (op_move (v := .bool _) rfl) rfl ?_
    refine et_split 31 rfl (fun hb2 => ?_) (fun hb2 => ?_)
    · have hp2 := hb2
      (try simp only [decide_eq_true_eq, decide_eq_false_iff_not, Bool.not_eq_true', Bool.not_eq_false', ne_eq, Decidable.not_not] at hp2)
      exact absurd hb2 (by simp; omega)
    · have hp2 := hb2
      (try simp only [decide_eq_true_eq, decide_eq_false_iff_not, Bool.not_eq_true', Bool.not_eq_false', ne_eq, Decidable.not_not] at hp2)
      -- 24
      refine et_quiet 24 (by kernel_rfl) rfl (by kernel_rfl) (wn_some rfl rfl rfl hb2 rfl) (op_move (v := .pointer _) rfl) rfl ?_
      -- 26
      refine et_quiet 26 (by kernel_rfl) rfl (by kernel_rfl) (wn_some rfl rfl rfl hb2 rfl) (op_move (v := .pointer _) rfl) rfl ?_
      -- 27
      refine et_quiet 27 (by kernel_rfl) rfl (by kernel_rfl) (wn_some rfl rfl rfl hb2 rfl) (op_nilck rfl) rfl ?_
      -- 28
      refine et_quiet 28 (by kernel_rfl) rfl (by kernel_rfl) (wn_some rfl rfl rfl hb2 rfl) (op_field fld_73_0 rfl) rfl ?_
      -- 29
      refine et_quiet 29 (by kernel_rfl) rfl (by kernel_rfl) (wn_some rfl rfl rfl hb2 rfl) (op_ld 0 sc_45 rfl rfl rfl) rfl ?_
      refine et_1 (i := 25) (by kernel_rfl) ?_
      refine ei_i rfl rfl (wn_some rfl rfl rfl hb2 rfl) (os_call cb_29 rfl (fun w s => Roots_calls _ _  s )) rfl ?_; rintro _ _ ⟨ao3, ac3, rfl, rfl⟩; refine ⟨[_, _], rfl, ?_⟩
      refine et_1 (i := 30) (by kernel_rfl) ?_
      refine ei_i rfl rfl (wn_some rfl rfl rfl hb2 rfl) (os_call cb_25 rfl (fun w s => Same_calls _ _ _ _ _ _  s (rds_row 0 rfl rfl) (rds_row 3 rfl rfl) (by simp [TreeS.roots]; omega))) rfl ?_; rintro _ l ⟨rfl, rfl⟩; refine ⟨[_, _], rfl, ?_⟩
      -- 31
      refine et_quiet 31 (by kernel_rfl) rfl (by kernel_rfl) (wn_some rfl rfl rfl hb2 rfl) (op_not rfl) rfl ?_
      -- 32
      refine et_quiet 32 (by kernel_rfl) rfl (by kernel_rfl) (wn_none rfl) (op_pick_f (v := .bool _) rfl hb2 rfl) rfl ?_
      refine et_nil_then (by kernel_rfl) ?_
      refine cd_cond rfl (fun hb3 => ?_) (fun hb3 => ?_)
      · have hp3 := hb3
        (try simp only [decide_eq_true_eq, decide_eq_false_iff_not, Bool.not_eq_true', Bool.not_eq_false', ne_eq, Decidable.not_not] at hp3)
        exact absurd hb3 (by simp [hR.r, TreeS.roots])
      · have hp3 := hb3
        (try simp only [decide_eq_true_eq, decide_eq_false_iff_not, Bool.not_eq_true', Bool.not_eq_false', ne_eq, Decidable.not_not] at hp3)
        refine cd_skip ?_
        refine px_then ?_
        refine cd_seq ?_
        refine cd_sr ?_   -- 3
        refine ol_q (wn_none rfl) (op_assign (v := .int _ _) rfl) rfl ?_
        refine ol_nil_then ?_
        refine cd_block ?_
        refine cd_loop2 (α := Int) [(4, 7), (41, 114)] (fun x => [(5, .int .i64 x)]) (fun _ => _) (fun x => -1 ≤ x ∧ x ≤ t.nodes.length + 1) (fun x => (t.nodes.length + 1 - x).toNat) (-1) ⟨by omega, by omega⟩ ⟨rfl, trivial⟩ (fun _ s => s) ?_
        rintro x ⟨hx1, hx2⟩ f; (try dsimp only at hx1 hx2 ⊢)
        refine cd_seq ?_
        refine cd_sr ?_   -- 4
        refine ol_q (wn_none rfl) (op_move (v := .int _ _) rfl) rfl ?_
        refine ol_q (wn_none rfl) (op_move (v := .pointer _) rfl) rfl ?_
        refine ol_q (wn_none rfl) (op_nilck rfl) rfl ?_
        refine ol_q (wn_none rfl) (op_field fld_73_0 rfl) rfl ?_
        refine ol_q (wn_none rfl) (op_ld 2 sc_45 rfl rfl rfl) rfl ?_
        refine ol_q (wn_none rfl) (op_len_slice Try.underlying45 rfl) rfl ?_
        refine ol_q (wn_none rfl) (op_le rfl rfl) rfl ?_
        refine ol_nil_then ?_
        refine cd_cond rfl (fun hb4 => ?_) (fun hb4 => ?_)
        · have hp4 := hb4
          (try simp only [decide_eq_true_eq, decide_eq_false_iff_not, Bool.not_eq_true', Bool.not_eq_false', ne_eq, Decidable.not_not] at hp4)
          refine cd_skip ?_
          refine px_then ?_
          refine cd_seq ?_
          refine cd_block ?_
          by_cases hin : 0 ≤ x ∧ x < t.nodes.length
          ·
            obtain ⟨i0, rfl⟩ : ∃ i0 : Nat, x = i0 := ⟨x.toNat, by omega⟩
            have hil : i0 < t.nodes.length := by omega
            have hnd := TreeS.node_nat hil
            have hRi : R[i0] = t.nodes[i0].root := by simp only [hR.r, List.getElem_map]
            have hSi : Sl[i0] = t.nodes[i0].slot := by simp only [hR.s, List.getElem_map]
            have hupe : t.up (i0 : Int) = t.nodes[i0].parent := by unfold TreeS.up; rw [if_pos (by omega), Int.toNat_natCast, List.getElem?_eq_getElem hil]; rfl
            have hplc : t.place t.nodes[i0].root = i0 := by unfold TreeS.place; rw [idxOf_get hw.nd (List.getElem?_eq_getElem hil)]
            have hpar := hw.par_rg (List.getElem?_eq_getElem hil)
            refine cd_sr ?_   -- 6
            refine ol_q (wn_none rfl) (op_move (v := .pointer _) rfl) rfl ?_
            refine ol_q (wn_none rfl) (op_move (v := .int _ _) rfl) rfl ?_
            refine ol_pull1 ?_
            refine ol_i (wn_none rfl) (os_call cb_18 rfl (fun w s => Node_calls _ _ _  s )) rfl ?_; rintro _ _ ⟨rfl, rfl⟩; simp only [hnd, Option.getD_some, Option.getD_none, Option.isSome_some, Option.isSome_none]
            refine ol_q (wn_none rfl) (op_move (v := .tuple _) rfl) rfl ?_
            refine ol_q (wn_none rfl) (op_extract (v := .agg _) rfl rfl) rfl ?_
            refine ol_q (wn_none rfl) (op_extract (v := .bool _) rfl rfl) rfl ?_
            refine ol_i (wn_none rfl) (os_alloc (cs := (nodeC Node.zero).toArray) zB_32 (by kernel_rfl)) rfl ?_; rintro _ _ ⟨bx1, rfl, rfl⟩
            refine ol_iN (wn_none rfl) (os_storew (nodeC _) ag_32 rfl rfl (nodeC_len _) (nodeC_one _) (by simp [nodeC_len]) (Free.zero _)) ?_; rintro _ _ ⟨rfl, rfl⟩
            refine ol_q (wn_none rfl) (op_assign (v := .bool _) rfl) rfl ?_
            refine ol_nil_then ?_
            refine cd_seq ?_
            refine cd_sr ?_   -- 7
            refine ol_q (wn_none rfl) (op_move (v := .int _ _) rfl) rfl ?_
            refine ol_q (wn_none rfl) (op_lt rfl rfl) rfl ?_
            refine ol_q (wn_none rfl) (op_move (v := .bool _) rfl) rfl ?_
            refine ol_split 58 rfl (fun hb5 => ?_) (fun hb5 => ?_)
            · have hp5 := hb5
              (try simp only [decide_eq_true_eq, decide_eq_false_iff_not, Bool.not_eq_true', Bool.not_eq_false', ne_eq, Decidable.not_not] at hp5)
              exact absurd hb5 (by simp)
            · have hp5 := hb5
              (try simp only [decide_eq_true_eq, decide_eq_false_iff_not, Bool.not_eq_true', Bool.not_eq_false', ne_eq, Decidable.not_not] at hp5)
              refine ol_q (wn_some rfl rfl rfl hb5 rfl) (op_move (v := .int _ _) rfl) rfl ?_
              refine ol_q (wn_some rfl rfl rfl hb5 rfl) (op_move (v := .pointer _) rfl) rfl ?_
              refine ol_q (wn_some rfl rfl rfl hb5 rfl) (op_nilck rfl) rfl ?_
              refine ol_q (wn_some rfl rfl rfl hb5 rfl) (op_field fld_73_0 rfl) rfl ?_
              refine ol_q (wn_some rfl rfl rfl hb5 rfl) (op_ld 3 sc_45 rfl rfl rfl) rfl ?_
              refine ol_q (wn_some rfl rfl rfl hb5 rfl) (op_len_slice Try.underlying45 rfl) rfl ?_
              refine ol_q (wn_some rfl rfl rfl hb5 rfl) (op_ge rfl rfl) rfl ?_
              refine ol_q (wn_none rfl) (op_pick_f (v := .bool _) rfl hb5 rfl) rfl ?_
              refine ol_nil_then ?_
              refine cd_cond rfl (fun hb6 => ?_) (fun hb6 => ?_)
              · have hp6 := hb6
                (try simp only [decide_eq_true_eq, decide_eq_false_iff_not, Bool.not_eq_true', Bool.not_eq_false', ne_eq, Decidable.not_not] at hp6)
                exact absurd hb6 (by simp; omega)
              · have hp6 := hb6
                (try simp only [decide_eq_true_eq, decide_eq_false_iff_not, Bool.not_eq_true', Bool.not_eq_false', ne_eq, Decidable.not_not] at hp6)
                refine cd_skip ?_
                refine px_then ?_
                refine cd_pull1 ?_
                refine cd_seq ?_   -- 10
                refine cd_drawe (M := [_]) mx [31, 38] ?_
                -- 0
                refine et_quiet 0 (by kernel_rfl) rfl (by kernel_rfl) (wn_none rfl) (op_move (v := .bool _) rfl) rfl ?_
                -- 1
                refine et_quiet 1 (by kernel_rfl) rfl (by kernel_rfl) (wn_none rfl) (op_not rfl) rfl ?_
                -- 2
                refine et_quiet 2 (by kernel_rfl) rfl (by kernel_rfl) (wn_none rfl) (op_move (v := .bool _) rfl) rfl ?_
                refine et_split 75 rfl (fun hb7 => ?_) (fun hb7 => ?_)
                · have hp7 := hb7
                  (try simp only [decide_eq_true_eq, decide_eq_false_iff_not, Bool.not_eq_true', Bool.not_eq_false', ne_eq, Decidable.not_not] at hp7)
                  exact absurd hb7 (by simp)
                · have hp7 := hb7
                  (try simp only [decide_eq_true_eq, decide_eq_false_iff_not, Bool.not_eq_true', Bool.not_eq_false', ne_eq, Decidable.not_not] at hp7)
                  -- 3
                  refine et_quiet 3 (by kernel_rfl) rfl (by kernel_rfl) (wn_some rfl rfl rfl hb7 rfl) (op_field fld_32_0 rfl) rfl ?_
                  -- 4
                  refine et_quiet 4 (by kernel_rfl) rfl (by kernel_rfl) (wn_some rfl rfl rfl hb7 rfl) (op_lda (L := rootC _) 0 ag_30 rfl rfl (nodeC_af0 _) (by simp [nodeC_len])) rfl ?_
                  -- 5
                  refine et_quiet 5 (by kernel_rfl) rfl (by kernel_rfl) (wn_some rfl rfl rfl hb7 rfl) (op_move (v := .pointer _) rfl) rfl ?_
                  -- 6
                  refine et_quiet 6 (by kernel_rfl) rfl (by kernel_rfl) (wn_some rfl rfl rfl hb7 rfl) (op_nilck rfl) rfl ?_
                  -- 7
                  refine et_quiet 7 (by kernel_rfl) rfl (by kernel_rfl) (wn_some rfl rfl rfl hb7 rfl) (op_field fld_73_0 rfl) rfl ?_
                  -- 8
                  refine et_quiet 8 (by kernel_rfl) rfl (by kernel_rfl) (wn_some rfl rfl rfl hb7 rfl) (op_ld 2 sc_45 rfl rfl rfl) rfl ?_
                  -- 9
                  refine et_quiet 9 (by kernel_rfl) rfl (by kernel_rfl) (wn_some rfl rfl rfl hb7 rfl) (op_move (v := .int _ _) rfl) rfl ?_
                  -- 10
                  refine et_quiet 10 (by kernel_rfl) rfl (by kernel_rfl) (wn_some rfl rfl rfl hb7 rfl) (op_index i0 sB_45 rfl rfl rfl (rds_row 3 rfl rfl) rfl (by omega)) rfl ?_
                  -- 11
                  refine et_quiet 11 (by kernel_rfl) rfl (by kernel_rfl) (wn_some rfl rfl rfl hb7 rfl) (op_ldaw (L := rootC _) ag_30 (rds_row 3 rfl rfl) rfl (by omega) rfl (rootC_ta _)) rfl ?_
                  -- 12
                  refine et_quiet 12 (by kernel_rfl) rfl (by kernel_rfl) (wn_some rfl rfl rfl hb7 rfl) (op_neroot _ _ rB_30 rfl rfl) rfl ?_
                  -- 13
                  refine et_quiet 13 (by kernel_rfl) rfl (by kernel_rfl) (wn_none rfl) (op_pick_f (v := .bool _) rfl hb7 rfl) rfl ?_
                  -- 14
                  refine et_quiet 14 (by kernel_rfl) rfl (by kernel_rfl) (wn_none rfl) (op_move (v := .bool _) rfl) rfl ?_
                  refine et_split 87 rfl (fun hb8 => ?_) (fun hb8 => ?_)
                  · have hp8 := hb8
                    (try simp only [decide_eq_true_eq, decide_eq_false_iff_not, Bool.not_eq_true', Bool.not_eq_false', ne_eq, Decidable.not_not] at hp8)
                    exact absurd hb8 (by simp [hRi])
                  · have hp8 := hb8
                    (try simp only [decide_eq_true_eq, decide_eq_false_iff_not, Bool.not_eq_true', Bool.not_eq_false', ne_eq, Decidable.not_not] at hp8)
                    -- 15
                    refine et_quiet 15 (by kernel_rfl) rfl (by kernel_rfl) (wn_some rfl rfl rfl hb8 rfl) (op_field fld_32_1 rfl) rfl ?_
                    -- 16
                    refine et_quiet 16 (by kernel_rfl) rfl (by kernel_rfl) (wn_some rfl rfl rfl hb8 rfl) (op_ld 0 sc_3 rfl rfl (nodeC_a32 _)) rfl ?_
                    -- 17
                    refine et_quiet 17 (by kernel_rfl) rfl (by kernel_rfl) (wn_some rfl rfl rfl hb8 rfl) (op_move (v := .pointer _) rfl) rfl ?_
                    -- 18
                    refine et_quiet 18 (by kernel_rfl) rfl (by kernel_rfl) (wn_some rfl rfl rfl hb8 rfl) (op_nilck rfl) rfl ?_
                    -- 19
                    refine et_quiet 19 (by kernel_rfl) rfl (by kernel_rfl) (wn_some rfl rfl rfl hb8 rfl) (op_field fld_73_1 rfl) rfl ?_
                    -- 20
                    refine et_quiet 20 (by kernel_rfl) rfl (by kernel_rfl) (wn_some rfl rfl rfl hb8 rfl) (op_ld 2 sc_71 rfl rfl rfl) rfl ?_
                    -- 21
                    refine et_quiet 21 (by kernel_rfl) rfl (by kernel_rfl) (wn_some rfl rfl rfl hb8 rfl) (op_move (v := .int _ _) rfl) rfl ?_
                    -- 22
                    refine et_quiet 22 (by kernel_rfl) rfl (by kernel_rfl) (wn_some rfl rfl rfl hb8 rfl) (op_index i0 sB_71 rfl rfl rfl (rds_row 4 rfl rfl) rfl (by omega)) rfl ?_
                    -- 23
                    refine et_quiet 23 (by kernel_rfl) rfl (by kernel_rfl) (wn_some rfl rfl rfl hb8 rfl) (op_ldw sc_3 (rds_row 4 rfl rfl) rfl (by omega) rfl) rfl ?_
                    -- 24
                    refine et_quiet 24 (by kernel_rfl) rfl (by kernel_rfl) (wn_some rfl rfl rfl hb8 rfl) (op_ne rfl rfl) rfl ?_
                    -- 25
                    refine et_quiet 25 (by kernel_rfl) rfl (by kernel_rfl) (wn_none rfl) (op_pick_f (v := .bool _) rfl hb8 rfl) rfl ?_
                    -- 26
                    refine et_quiet 26 (by kernel_rfl) rfl (by kernel_rfl) (wn_none rfl) (op_move (v := .bool _) rfl) rfl ?_
                    refine et_split 99 rfl (fun hb9 => ?_) (fun hb9 => ?_)
                    · have hp9 := hb9
                      (try simp only [decide_eq_true_eq, decide_eq_false_iff_not, Bool.not_eq_true', Bool.not_eq_false', ne_eq, Decidable.not_not] at hp9)
                      exact absurd hb9 (by simp [hSi])
                    · have hp9 := hb9
                      (try simp only [decide_eq_true_eq, decide_eq_false_iff_not, Bool.not_eq_true', Bool.not_eq_false', ne_eq, Decidable.not_not] at hp9)
                      -- 27
                      refine et_quiet 27 (by kernel_rfl) rfl (by kernel_rfl) (wn_some rfl rfl rfl hb9 rfl) (op_field fld_32_2 rfl) rfl ?_
                      -- 28
                      refine et_quiet 28 (by kernel_rfl) rfl (by kernel_rfl) (wn_some rfl rfl rfl hb9 rfl) (op_ld 0 sc_3 rfl rfl (nodeC_a33 _)) rfl ?_
                      -- 29
                      refine et_quiet 29 (by kernel_rfl) rfl (by kernel_rfl) (wn_some rfl rfl rfl hb9 rfl) (op_move (v := .pointer _) rfl) rfl ?_
                      -- 30
                      refine et_quiet 30 (by kernel_rfl) rfl (by kernel_rfl) (wn_some rfl rfl rfl hb9 rfl) (op_move (v := .int _ _) rfl) rfl ?_
                      refine et_1 (i := 31) (by kernel_rfl) ?_
                      refine ei_i rfl rfl (wn_some rfl rfl rfl hb9 rfl) (os_call cb_48 rfl (fun w s => RUpQ_calls s hw hR (fun _ s => (((((((s.pull 2).pull 2).pull 2).pull 6).pull 6).pull 6).pull 6)) (fun _ s => (((((((s.pull 3).pull 3).pull 3).pull 3).pull 6).pull 6).pull 6)))) rfl ?_; rintro _ _ ⟨rfl, rfl⟩; refine ⟨[_], rfl, ?_⟩
                      -- own
                      -- 32
                      refine et_quiet 32 (by kernel_rfl) rfl (by kernel_rfl) (wn_some rfl rfl rfl hb9 rfl) (op_ne rfl rfl) rfl ?_
                      -- 33
                      refine et_quiet 33 (by kernel_rfl) rfl (by kernel_rfl) (wn_none rfl) (op_pick_f (v := .bool _) rfl hb9 rfl) rfl ?_
                      -- 34
                      refine et_quiet 34 (by kernel_rfl) rfl (by kernel_rfl) (wn_none rfl) (op_move (v := .bool _) rfl) rfl ?_
                      refine et_split 107 rfl (fun hb10 => ?_) (fun hb10 => ?_)
                      · have hp10 := hb10
                        (try simp only [decide_eq_true_eq, decide_eq_false_iff_not, Bool.not_eq_true', Bool.not_eq_false', ne_eq, Decidable.not_not] at hp10)
                        exact absurd hb10 (by simp [hupe])
                      · have hp10 := hb10
                        (try simp only [decide_eq_true_eq, decide_eq_false_iff_not, Bool.not_eq_true', Bool.not_eq_false', ne_eq, Decidable.not_not] at hp10)
                        -- 35
                        refine et_quiet 35 (by kernel_rfl) rfl (by kernel_rfl) (wn_some rfl rfl rfl hb10 rfl) (op_move (v := .pointer _) rfl) rfl ?_
                        -- 36
                        refine et_quiet 36 (by kernel_rfl) rfl (by kernel_rfl) (wn_some rfl rfl rfl hb10 rfl) (op_field fld_32_0 rfl) rfl ?_
                        -- 37
                        refine et_quiet 37 (by kernel_rfl) rfl (by kernel_rfl) (wn_some rfl rfl rfl hb10 rfl) (op_lda (L := rootC _) 0 ag_30 rfl rfl (nodeC_af0 _) (by simp [nodeC_len])) rfl ?_
                        -- 39
                        refine et_quiet 39 (by kernel_rfl) rfl (by kernel_rfl) (wn_some rfl rfl rfl hb10 rfl) (op_move (v := .int _ _) rfl) rfl ?_
                        refine et_1 (i := 38) (by kernel_rfl) ?_
                        refine ei_i rfl rfl (wn_some rfl rfl rfl hb10 rfl) (os_call cb_28 rfl (fun w s => Place_calls _ _ _  s )) rfl ?_; rintro _ _ ⟨rfl, rfl⟩; rw [hplc]; refine ⟨[_], rfl, ?_⟩
                        -- 40
                        refine et_quiet 40 (by kernel_rfl) rfl (by kernel_rfl) (wn_some rfl rfl rfl hb10 rfl) (op_ne rfl rfl) rfl ?_
                        -- 41
                        refine et_quiet 41 (by kernel_rfl) rfl (by kernel_rfl) (wn_none rfl) (op_pick_f (v := .bool _) rfl hb10 rfl) rfl ?_
                        refine et_nil_then (by kernel_rfl) ?_
                        refine cd_cond rfl (fun hb11 => ?_) (fun hb11 => ?_)
                        · have hp11 := hb11
                          (try simp only [decide_eq_true_eq, decide_eq_false_iff_not, Bool.not_eq_true', Bool.not_eq_false', ne_eq, Decidable.not_not] at hp11)
                          exact absurd hb11 (by simp)
                        · have hp11 := hb11
                          (try simp only [decide_eq_true_eq, decide_eq_false_iff_not, Bool.not_eq_true', Bool.not_eq_false', ne_eq, Decidable.not_not] at hp11)
                          refine cd_skip ?_
                          refine px_blockN ?_
                          refine px_then ?_
                          refine cd_region ?_   -- 5
                          refine ol_q (wn_none rfl) (op_move (v := .int _ _) rfl) rfl ?_
                          refine ol_q (wn_none rfl) (op_add rfl rfl (by omega) (by omega)) rfl ?_
                          refine ol_q (wn_none rfl) (op_assign (v := .int _ _) rfl) rfl ?_
                          refine ol_nil ?_
                          refine px_loop2 ((i0 : Int) + 1) ⟨by omega, by omega⟩ (by (try dsimp only); omega) ⟨rfl, trivial⟩ ?_ (fun _ s => (((((((s.del 1).pull 5).pull 5).pull 5).pull 5).pull 4).pull 5))
                          repeat (first | exact kept_over | refine kept_upd rfl ?_ | refine kept_overS (by decide) ?_)
          ·
            have hnd : t.node x = none := TreeS.node_out (by omega)
            refine cd_sr ?_   -- 6
            refine ol_q (wn_none rfl) (op_move (v := .pointer _) rfl) rfl ?_
            refine ol_q (wn_none rfl) (op_move (v := .int _ _) rfl) rfl ?_
            refine ol_pull1 ?_
            refine ol_i (wn_none rfl) (os_call cb_18 rfl (fun w s => Node_calls _ _ _  s )) rfl ?_; rintro _ _ ⟨rfl, rfl⟩; simp only [hnd, Option.getD_some, Option.getD_none, Option.isSome_some, Option.isSome_none]
            refine ol_q (wn_none rfl) (op_move (v := .tuple _) rfl) rfl ?_
            refine ol_q (wn_none rfl) (op_extract (v := .agg _) rfl rfl) rfl ?_
            refine ol_q (wn_none rfl) (op_extract (v := .bool _) rfl rfl) rfl ?_
            refine ol_i (wn_none rfl) (os_alloc (cs := (nodeC Node.zero).toArray) zB_32 (by kernel_rfl)) rfl ?_; rintro _ _ ⟨bx2, rfl, rfl⟩
            refine ol_iN (wn_none rfl) (os_storew (nodeC _) ag_32 rfl rfl (nodeC_len _) (nodeC_one _) (by simp [nodeC_len]) (Free.zero _)) ?_; rintro _ _ ⟨rfl, rfl⟩
            refine ol_q (wn_none rfl) (op_assign (v := .bool _) rfl) rfl ?_
            refine ol_nil_then ?_
            refine cd_seq ?_
            refine cd_sr ?_   -- 7
            refine ol_q (wn_none rfl) (op_move (v := .int _ _) rfl) rfl ?_
            refine ol_q (wn_none rfl) (op_lt rfl rfl) rfl ?_
            refine ol_q (wn_none rfl) (op_move (v := .bool _) rfl) rfl ?_
            refine ol_split 58 rfl (fun hb12 => ?_) (fun hb12 => ?_)
            · have hp12 := hb12
              (try simp only [decide_eq_true_eq, decide_eq_false_iff_not, Bool.not_eq_true', Bool.not_eq_false', ne_eq, Decidable.not_not] at hp12)
              refine ol_skip (wn_some rfl rfl rfl hb12 rfl) rfl ?_
              refine ol_skip (wn_some rfl rfl rfl hb12 rfl) rfl ?_
              refine ol_skip (wn_some rfl rfl rfl hb12 rfl) rfl ?_
              refine ol_skip (wn_some rfl rfl rfl hb12 rfl) rfl ?_
              refine ol_skip (wn_some rfl rfl rfl hb12 rfl) rfl ?_
              refine ol_skip (wn_some rfl rfl rfl hb12 rfl) rfl ?_
              refine ol_skip (wn_some rfl rfl rfl hb12 rfl) rfl ?_
              refine ol_q (wn_none rfl) (op_pick_t (v := .bool _) rfl hb12 rfl) rfl ?_
              refine ol_nil_then ?_
              refine cd_cond_t rfl rfl ?_
              refine cd_seq ?_
              refine cd_sr ?_   -- 8
              refine ol_q (wn_none rfl) (op_move (v := .bool _) rfl) rfl ?_
              refine ol_q (wn_none rfl) (op_move (v := .bool _) rfl) rfl ?_
              refine ol_split 68 rfl (fun hb13 => ?_) (fun hb13 => ?_)
              · have hp13 := hb13
                (try simp only [decide_eq_true_eq, decide_eq_false_iff_not, Bool.not_eq_true', Bool.not_eq_false', ne_eq, Decidable.not_not] at hp13)
                exact absurd hb13 (by simp)
              · have hp13 := hb13
                (try simp only [decide_eq_true_eq, decide_eq_false_iff_not, Bool.not_eq_true', Bool.not_eq_false', ne_eq, Decidable.not_not] at hp13)
                refine ol_q (wn_some rfl rfl rfl hb13 rfl) (op_lda (L := nodeC _) 0 ag_32 rfl rfl (nodeC_ta _) (by simp [nodeC_len])) rfl ?_
                refine ol_q (wn_some rfl rfl rfl hb13 rfl) (op_build (L := nodeC _) (vs := [(2, .int _ _)]) bB_32 rfl ⟨⟨rfl, by rw [nodeC_len]; rfl⟩, trivial⟩ ((nodeC_b2 _ _ _).trans rfl)) rfl ?_
                refine ol_q (wn_some rfl rfl rfl hb13 rfl) (op_nes stB_32 rfl rfl (feq_Node fs_32 Try.underlying3 rB_30 _ _)) rfl ?_
                refine ol_q (wn_none rfl) (op_pick_f (v := .bool _) rfl hb13 rfl) rfl ?_
                refine ol_nil_then ?_
                refine cd_cond rfl (fun hb14 => ?_) (fun hb14 => ?_)
                · have hp14 := hb14
                  (try simp only [decide_eq_true_eq, decide_eq_false_iff_not, Bool.not_eq_true', Bool.not_eq_false', ne_eq, Decidable.not_not] at hp14)
                  exact absurd hb14 (by first | (simp [nodeNo, Node.zero]; done) | (simp; rfl))
                · have hp14 := hb14
                  (try simp only [decide_eq_true_eq, decide_eq_false_iff_not, Bool.not_eq_true', Bool.not_eq_false', ne_eq, Decidable.not_not] at hp14)
                  refine cd_skip ?_
                  refine px_then ?_
                  refine cd_exit ?_
                  refine px_thenE ?_
                  refine px_blockE ?_
                  refine px_then ?_
                  refine cd_region ?_   -- 5
                  refine ol_q (wn_none rfl) (op_move (v := .int _ _) rfl) rfl ?_
                  refine ol_q (wn_none rfl) (op_add rfl rfl (by omega) (by omega)) rfl ?_
                  refine ol_q (wn_none rfl) (op_assign (v := .int _ _) rfl) rfl ?_
                  refine ol_nil ?_
                  refine px_loop2 (x + 1) ⟨by omega, by omega⟩ (by (try dsimp only); omega) ⟨rfl, trivial⟩ ?_ (fun _ s => (((((((s.del 0).pull 5).pull 5).pull 5).pull 5).pull 4).pull 5))
                  repeat (first | exact kept_over | refine kept_upd rfl ?_ | refine kept_overS (by decide) ?_)
            · have hp12 := hb12
              (try simp only [decide_eq_true_eq, decide_eq_false_iff_not, Bool.not_eq_true', Bool.not_eq_false', ne_eq, Decidable.not_not] at hp12)
              refine ol_q (wn_some rfl rfl rfl hb12 rfl) (op_move (v := .int _ _) rfl) rfl ?_
              refine ol_q (wn_some rfl rfl rfl hb12 rfl) (op_move (v := .pointer _) rfl) rfl ?_
              refine ol_q (wn_some rfl rfl rfl hb12 rfl) (op_nilck rfl) rfl ?_
              refine ol_q (wn_some rfl rfl rfl hb12 rfl) (op_field fld_73_0 rfl) rfl ?_
              refine ol_q (wn_some rfl rfl rfl hb12 rfl) (op_ld 3 sc_45 rfl rfl rfl) rfl ?_
              refine ol_q (wn_some rfl rfl rfl hb12 rfl) (op_len_slice Try.underlying45 rfl) rfl ?_
              refine ol_q (wn_some rfl rfl rfl hb12 rfl) (op_ge rfl rfl) rfl ?_
              refine ol_q (wn_none rfl) (op_pick_f (v := .bool _) rfl hb12 rfl) rfl ?_
              refine ol_nil_then ?_
              refine cd_cond rfl (fun hb15 => ?_) (fun hb15 => ?_)
              · have hp15 := hb15
                (try simp only [decide_eq_true_eq, decide_eq_false_iff_not, Bool.not_eq_true', Bool.not_eq_false', ne_eq, Decidable.not_not] at hp15)
                refine cd_seq ?_
                refine cd_sr ?_   -- 8
                refine ol_q (wn_none rfl) (op_move (v := .bool _) rfl) rfl ?_
                refine ol_q (wn_none rfl) (op_move (v := .bool _) rfl) rfl ?_
                refine ol_split 68 rfl (fun hb16 => ?_) (fun hb16 => ?_)
                · have hp16 := hb16
                  (try simp only [decide_eq_true_eq, decide_eq_false_iff_not, Bool.not_eq_true', Bool.not_eq_false', ne_eq, Decidable.not_not] at hp16)
                  exact absurd hb16 (by simp)
                · have hp16 := hb16
                  (try simp only [decide_eq_true_eq, decide_eq_false_iff_not, Bool.not_eq_true', Bool.not_eq_false', ne_eq, Decidable.not_not] at hp16)
                  refine ol_q (wn_some rfl rfl rfl hb16 rfl) (op_lda (L := nodeC _) 0 ag_32 rfl rfl (nodeC_ta _) (by simp [nodeC_len])) rfl ?_
                  refine ol_q (wn_some rfl rfl rfl hb16 rfl) (op_build (L := nodeC _) (vs := [(2, .int _ _)]) bB_32 rfl ⟨⟨rfl, by rw [nodeC_len]; rfl⟩, trivial⟩ ((nodeC_b2 _ _ _).trans rfl)) rfl ?_
                  refine ol_q (wn_some rfl rfl rfl hb16 rfl) (op_nes stB_32 rfl rfl (feq_Node fs_32 Try.underlying3 rB_30 _ _)) rfl ?_
                  refine ol_q (wn_none rfl) (op_pick_f (v := .bool _) rfl hb16 rfl) rfl ?_
                  refine ol_nil_then ?_
                  refine cd_cond rfl (fun hb17 => ?_) (fun hb17 => ?_)
                  · have hp17 := hb17
                    (try simp only [decide_eq_true_eq, decide_eq_false_iff_not, Bool.not_eq_true', Bool.not_eq_false', ne_eq, Decidable.not_not] at hp17)
                    exact absurd hb17 (by first | (simp [nodeNo, Node.zero]; done) | (simp; rfl))
                  · have hp17 := hb17
                    (try simp only [decide_eq_true_eq, decide_eq_false_iff_not, Bool.not_eq_true', Bool.not_eq_false', ne_eq, Decidable.not_not] at hp17)
                    refine cd_skip ?_
                    refine px_then ?_
                    refine cd_exit ?_
                    refine px_thenE ?_
                    refine px_blockE ?_
                    refine px_then ?_
                    refine cd_region ?_   -- 5
                    refine ol_q (wn_none rfl) (op_move (v := .int _ _) rfl) rfl ?_
                    refine ol_q (wn_none rfl) (op_add rfl rfl (by omega) (by omega)) rfl ?_
                    refine ol_q (wn_none rfl) (op_assign (v := .int _ _) rfl) rfl ?_
                    refine ol_nil ?_
                    refine px_loop2 (x + 1) ⟨by omega, by omega⟩ (by (try dsimp only); omega) ⟨rfl, trivial⟩ ?_ (fun _ s => (((((((s.del 0).pull 5).pull 5).pull 5).pull 5).pull 4).pull 5))
                    repeat (first | exact kept_over | refine kept_upd rfl ?_ | refine kept_overS (by decide) ?_)
              · have hp15 := hb15
                (try simp only [decide_eq_true_eq, decide_eq_false_iff_not, Bool.not_eq_true', Bool.not_eq_false', ne_eq, Decidable.not_not] at hp15)
                exact absurd hb15 (by simp; omega)
        · have hp4 := hb4
          (try simp only [decide_eq_true_eq, decide_eq_false_iff_not, Bool.not_eq_true', Bool.not_eq_false', ne_eq, Decidable.not_not] at hp4)
          refine cd_exit ?_
          refine px_thenE ?_
          refine px_thenE ?_
          refine px_blockE ?_
          refine px_then ?_
          refine cd_sr ?_   -- 12
          refine ol_q (wn_none rfl) (op_assign (v := .bool _) rfl) rfl ?_
          refine ol_nil_then ?_
          refine cd_ret ?_
          exact px_ret1 rfl (v := .bool _) (l' := TreeObj p t :: RTreeObj q t :: l) rfl (fun _ s => (Sat.rtreeMk hw hR rfl rfl rfl (((((s.del 0).pull 4).pull 4).pull 4).pull 4)).pull 1) ⟨rfl, rfl⟩

set_option maxRecDepth 100000 in
set_option maxHeartbeats 1000000 in
theorem Roots_nil {w0 w : World} {l : List HProp}  (hs : Sat w0 w (l))  :
    Calls Try.prog 29 #[.pointer none] w (Ret w0 fun v l' => v = .slice none 0 0 ∧ l' = l) := by
  refine calls_enter Try.func29 rfl rfl rfl hs ?_
  refine cd_sr ?_   -- 0
  refine ol_q (wn_none rfl) (op_assign (v := .slice _ _ _) rfl) rfl ?_
  refine ol_nil_then ?_
  refine cd_sr ?_   -- 1
  refine ol_i (wn_none rfl) (os_alloc zB_45 rfl) rfl ?_; rintro _ _ ⟨bx1, rfl, rfl⟩
  refine ol_nil_then ?_
  refine cd_seq ?_
  refine cd_sr ?_   -- 2
  refine ol_q (wn_none rfl) (op_move (v := .pointer _) rfl) rfl ?_
  refine ol_q (wn_none rfl) (op_nenil Try.underlying24 rfl rfl) rfl ?_
  refine ol_nil_then ?_
  refine cd_cond_f rfl rfl ?_
  refine cd_skip ?_
  refine px_then ?_
  refine cd_sr ?_   -- 6
  refine ol_q (wn_none rfl) (op_ld 0 sc_45 rfl rfl rfl) rfl ?_
  refine ol_q (wn_none rfl) (op_assign (v := .slice _ _ _) rfl) rfl ?_
  refine ol_nil_then ?_
  refine cd_ret ?_
  exact px_ret1 rfl (v := .slice _ _ _) rfl (fun _ s => (s.del 0)) ⟨rfl, rfl⟩
end Go.SL

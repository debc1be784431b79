import Derived.Test.YtbgnabofcceajaaTreeL2
import Derived.Test.YtbgnabofcceajaaMTree2
import Derived.Test.YtbgnabofcceajaaRoots
set_option linter.unusedVariables false
set_option linter.unusedSimpArgs false
namespace Go.SL
open Go.Proofs

set_option maxRecDepth 100000 in
set_option maxHeartbeats 1000000 in
theorem TreeKids_calls {w0 w : World} {l : List HProp} (ao : Option Addr) (c : Nat) (xs : List TAdd) (most : Int) (hs : Sat w0 w (l)) (hr : Rds w0 l encTAdd ao xs) (hq : ∀ a ∈ xs, I64 a.root ∧ I64 a.parent ∧ I64 a.slot) :
    Calls Try.prog 8 #[.slice ao xs.length c, .int .i64 most] w (Ret w0 fun v l' => v = .bool true ∧ l' = l) := by
  refine calls_enter Try.func8 rfl rfl rfl hs ?_
  refine cd_sr ?_   -- 0
  refine ol_q (wn_none rfl) (op_assign (v := .bool _) rfl) rfl ?_
  refine ol_nil_then ?_
  refine cd_seq ?_
  refine cd_sr ?_   -- 1
  refine ol_i (wn_none rfl) (os_call cb_15 rfl (fun w s => treeAlive_calls  s )) rfl ?_; rintro _ l ⟨rfl, rfl⟩
  refine ol_q (wn_none rfl) (op_not rfl) rfl ?_
  refine ol_nil_then ?_
  refine cd_cond_f rfl rfl ?_
  refine cd_skip ?_
  refine px_then ?_
  refine cd_seq ?_
  refine cd_sr ?_   -- 3
  refine ol_q (wn_none rfl) (op_move (v := .slice _ _ _) rfl) rfl ?_
  refine ol_q (wn_none rfl) (op_len_slice Try.underlying22 rfl) rfl ?_
  refine ol_q (wn_none rfl) (op_gt rfl rfl) rfl ?_
  refine ol_nil_then ?_
  refine cd_cond rfl (fun hb1 => ?_) (fun hb1 => ?_)
  · have hp1 := hb1
    (try simp only [decide_eq_true_eq, decide_eq_false_iff_not, Bool.not_eq_true', Bool.not_eq_false', ne_eq, Decidable.not_not] at hp1)
    refine cd_sr ?_   -- 4
    refine ol_q (wn_none rfl) (op_assign (v := .bool _) rfl) rfl ?_
    refine ol_nil_then ?_
    refine cd_ret ?_
    refine px_thenR ?_
    exact px_ret1 rfl (v := .bool _) rfl (fun _ s => s) ⟨congrArg Value.bool (by first | rfl | (apply decide_eq_true; omega) | (simp; omega)), rfl⟩
  · have hp1 := hb1
    (try simp only [decide_eq_true_eq, decide_eq_false_iff_not, Bool.not_eq_true', Bool.not_eq_false', ne_eq, Decidable.not_not] at hp1)
    refine cd_skip ?_
    refine px_then ?_
    refine cd_sr ?_   -- 5
    refine ol_i (wn_none rfl) (os_call cb_20 rfl (fun w s => Name_calls (n := 0)  s )) rfl ?_; rintro _ l ⟨rfl, rfl⟩
    refine ol_q (wn_none rfl) (op_move (v := .int _ _) rfl) rfl ?_
    refine ol_i (wn_none rfl) (os_call cb_21 rfl (fun w s => TNew_calls _ _ _ s)) rfl ?_; rintro _ l2 (⟨rfl, hl2, hbad1⟩ | ⟨p1, rfl, hok1, rfl⟩)
    · rw [hl2]
      refine ol_q (wn_none rfl) (op_move (v := .tuple _) rfl) rfl ?_
      refine ol_q (wn_none rfl) (op_extract (v := .pointer _) rfl rfl) rfl ?_
      refine ol_q (wn_none rfl) (op_extract (v := .int _ _) rfl rfl) rfl ?_
      refine ol_q (wn_none rfl) (op_assign (v := .pointer _) rfl) rfl ?_
      refine ol_q (wn_none rfl) (op_assign (v := .int _ _) rfl) rfl ?_
      refine ol_nil_then ?_
      refine cd_seq ?_
      refine cd_sr ?_   -- 6
      refine ol_q (wn_none rfl) (op_move (v := .int _ _) rfl) rfl ?_
      refine ol_q (wn_none rfl) (op_ne rfl rfl) rfl ?_
      refine ol_nil_then ?_
      refine cd_cond rfl (fun hb2 => ?_) (fun hb2 => ?_)
      · have hp2 := hb2
        (try simp only [decide_eq_true_eq, decide_eq_false_iff_not, Bool.not_eq_true', Bool.not_eq_false', ne_eq, Decidable.not_not] at hp2)
        refine cd_sr ?_   -- 7
        refine ol_q (wn_none rfl) (op_move (v := .int _ _) rfl) rfl ?_
        refine ol_q (wn_none rfl) (op_lt rfl rfl) rfl ?_
        refine ol_q (wn_none rfl) (op_move (v := .bool _) rfl) rfl ?_
        refine ol_split 33 rfl (fun hb3 => ?_) (fun hb3 => ?_)
        · have hp3 := hb3
          (try simp only [decide_eq_true_eq, decide_eq_false_iff_not, Bool.not_eq_true', Bool.not_eq_false', ne_eq, Decidable.not_not] at hp3)
          refine ol_skip (wn_some rfl rfl rfl hb3 rfl) rfl ?_
          refine ol_skip (wn_some rfl rfl rfl hb3 rfl) rfl ?_
          refine ol_q (wn_none rfl) (op_pick_t (v := .bool _) rfl hb3 rfl) rfl ?_
          refine ol_q (wn_none rfl) (op_assign (v := .bool _) rfl) rfl ?_
          refine ol_nil_then ?_
          refine cd_ret ?_
          refine px_thenR ?_
          exact px_ret1 rfl (v := .bool _) rfl (fun _ s => s) ⟨congrArg Value.bool (by first | rfl | (apply decide_eq_true; omega) | (simp; omega)), rfl⟩
        · have hp3 := hb3
          (try simp only [decide_eq_true_eq, decide_eq_false_iff_not, Bool.not_eq_true', Bool.not_eq_false', ne_eq, Decidable.not_not] at hp3)
          refine ol_q (wn_some rfl rfl rfl hb3 rfl) (op_move (v := .int _ _) rfl) rfl ?_
          refine ol_q (wn_some rfl rfl rfl hb3 rfl) (op_gt rfl rfl) rfl ?_
          refine ol_q (wn_none rfl) (op_pick_f (v := .bool _) rfl hb3 rfl) rfl ?_
          refine ol_q (wn_none rfl) (op_assign (v := .bool _) rfl) rfl ?_
          refine ol_nil_then ?_
          refine cd_ret ?_
          refine px_thenR ?_
          exact px_ret1 rfl (v := .bool _) rfl (fun _ s => s) ⟨congrArg Value.bool (by first | rfl | (apply decide_eq_true; omega) | (simp; omega)), rfl⟩
      · have hp2 := hb2
        (try simp only [decide_eq_true_eq, decide_eq_false_iff_not, Bool.not_eq_true', Bool.not_eq_false', ne_eq, Decidable.not_not] at hp2)
        exact absurd hb2 (by decide)
    · have hob1 := hok1
      refine ol_q (wn_none rfl) (op_move (v := .tuple _) rfl) rfl ?_
      refine ol_q (wn_none rfl) (op_extract (v := .pointer _) rfl rfl) rfl ?_
      refine ol_q (wn_none rfl) (op_extract (v := .int _ _) rfl rfl) rfl ?_
      refine ol_q (wn_none rfl) (op_assign (v := .pointer _) rfl) rfl ?_
      refine ol_q (wn_none rfl) (op_assign (v := .int _ _) rfl) rfl ?_
      refine ol_nil_then ?_
      refine cd_seq ?_
      refine cd_sr ?_   -- 6
      refine ol_q (wn_none rfl) (op_move (v := .int _ _) rfl) rfl ?_
      refine ol_q (wn_none rfl) (op_ne rfl rfl) rfl ?_
      refine ol_nil_then ?_
      refine cd_cond rfl (fun hb4 => ?_) (fun hb4 => ?_)
      · have hp4 := hb4
        (try simp only [decide_eq_true_eq, decide_eq_false_iff_not, Bool.not_eq_true', Bool.not_eq_false', ne_eq, Decidable.not_not] at hp4)
        exact absurd hb4 (by decide)
      · have hp4 := hb4
        (try simp only [decide_eq_true_eq, decide_eq_false_iff_not, Bool.not_eq_true', Bool.not_eq_false', ne_eq, Decidable.not_not] at hp4)
        refine cd_skip ?_
        refine px_then ?_
        refine cd_seq ?_
        refine cd_sr ?_   -- 8
        refine ol_q (wn_none rfl) (op_move (v := .slice _ _ _) rfl) rfl ?_
        refine ol_q (wn_none rfl) (op_len_slice Try.underlying22 rfl) rfl ?_
        refine ol_q (wn_none rfl) (op_move (v := .int _ _) rfl) rfl ?_
        refine ol_nil_then ?_
        refine cd_block ?_
        refine cd_loop2 (α := Nat) [(8, 8), (39, 53)] (fun x => [(39, .int .i64 (x : Int))]) (fun x => TreeObj p1 ((TreeS.new (nameR 0) 0 most).adds (xs.take x)) :: l) (fun x => x ≤ xs.length) (fun x => xs.length - x) 0 (Nat.zero_le _) ⟨rfl, trivial⟩ (fun _ s => s) ?_
        intro i hi f; (try dsimp only at hi ⊢)
        refine cd_sr ?_   -- 9
        refine ol_q (wn_none rfl) (op_lt rfl rfl) rfl ?_
        refine ol_nil_then ?_
        refine cd_seq ?_
        refine cd_cond rfl (fun hb5 => ?_) (fun hb5 => ?_)
        · have hp5 := hb5
          (try simp only [decide_eq_true_eq, decide_eq_false_iff_not, Bool.not_eq_true', Bool.not_eq_false', ne_eq, Decidable.not_not] at hp5)
          refine cd_skip ?_
          refine px_then ?_
          refine cd_seq ?_
          refine cd_block ?_
          refine cd_sr ?_   -- 10
          refine ol_q (wn_none rfl) (op_index _ sB_22 rfl rfl rfl (hr.cons _) rfl (by omega)) rfl ?_
          refine ol_q (wn_none rfl) (op_ldaw (L := tAddC _) ag_54 (hr.cons _) rfl (by omega) rfl (tAddC_ta _)) rfl ?_
          refine ol_i (wn_none rfl) (os_alloc (cs := (tAddC TAdd.zero).toArray) zB_54 (by kernel_rfl)) rfl ?_; rintro _ _ ⟨bx1, rfl, rfl⟩
          refine ol_iN (wn_none rfl) (os_storew (tAddC _) ag_54 rfl rfl (tAddC_len _) (tAddC_one _) (by simp [tAddC_len]) (Free.zero _)) ?_; rintro _ _ ⟨rfl, rfl⟩
          refine ol_nil_then ?_
          refine cd_pull1 ?_
          -- 11
          refine cd_draw (M := [_]) mx [3, 6, 9] (by kernel_rfl) ?_
          refine rg_q (wn_none rfl) (op_move (v := .pointer _) rfl) rfl rfl ?_
          refine rg_q (wn_none rfl) (op_field fld_54_0 rfl) rfl rfl ?_
          refine rg_q (wn_none rfl) (op_ld 0 sc_3 rfl rfl (tAddC_a0 _)) rfl rfl ?_
          refine rg_i (wn_none rfl) (os_call cb_20 rfl (fun w s => Name_calls _  s )) rfl rfl ?_; rintro _ l ⟨rfl, rfl⟩; refine ⟨[_], rfl, ?_⟩
          refine rg_q (wn_none rfl) (op_field fld_54_1 rfl) rfl rfl ?_
          refine rg_q (wn_none rfl) (op_ld 0 sc_3 rfl rfl (tAddC_a1 _)) rfl rfl ?_
          refine rg_i (wn_none rfl) (os_call cb_20 rfl (fun w s => Name_calls _  s )) rfl rfl ?_; rintro _ l ⟨rfl, rfl⟩; refine ⟨[_], rfl, ?_⟩
          refine rg_q (wn_none rfl) (op_field fld_54_2 rfl) rfl rfl ?_
          refine rg_q (wn_none rfl) (op_ld 0 sc_3 rfl rfl (tAddC_a2 _)) rfl rfl ?_
          refine rg_i (wn_none rfl) (os_call cb_22 rfl (fun w s => Add_calls _ _ _ _ _  s )) rfl rfl ?_; rintro _ _ ⟨rfl, rfl⟩; refine ⟨[_], rfl, ?_⟩
          refine rg_nil1 ?_
          refine px_blockN ?_
          refine px_then ?_
          refine cd_region ?_   -- 12
          refine ol_q (wn_none rfl) (op_add rfl rfl (by omega) (by omega)) rfl ?_
          refine ol_q (wn_none rfl) (op_move (v := .int _ _) rfl) rfl ?_
          refine ol_nil ?_
          have e1 := TreeS.adds_succ (TreeS.new (nameR 0) 0 most) xs i (by omega)
          refine px_loop2 (i + 1) (by omega) (by (try dsimp only); omega) ⟨congrArg (Value.int .i64) (by simp), trivial⟩ ?_ (fun _ s => (by rw [e1]; exact (s.del 1)))
          repeat (first | exact kept_over | refine kept_upd rfl ?_ | refine kept_overS (by decide) ?_)
        · have hp5 := hb5
          (try simp only [decide_eq_true_eq, decide_eq_false_iff_not, Bool.not_eq_true', Bool.not_eq_false', ne_eq, Decidable.not_not] at hp5)
          refine cd_exit ?_
          refine px_thenE ?_
          refine px_thenE ?_
          refine px_blockE ?_
          refine px_then ?_
          have hwf : ((TreeS.new (nameR 0) 0 most).adds (xs.take i)).WF := (TreeS.WF.new (by omega) (by omega) (by decide) (by decide)).adds _
          have hmo : ((TreeS.new (nameR 0) 0 most).adds (xs.take i)).most = most := (TreeS.adds_more _ _).1
          generalize ((TreeS.new (nameR 0) 0 most).adds (xs.take i)) = t at *
          have hm2 := hwf.m2; have hle := hwf.le; have hne := hwf.ne
          have hrl : t.roots.length = t.nodes.length := by simp [TreeS.roots]
          refine cd_sr ?_   -- 13
          refine ol_q (wn_none rfl) (op_assign (v := .int _ _) rfl) rfl ?_
          refine ol_nil_then ?_
          refine cd_seq ?_
          refine cd_sr ?_   -- 14
          refine ol_q (wn_none rfl) (op_move (v := .pointer _) rfl) rfl ?_
          refine ol_i (wn_none rfl) (os_call cb_29 rfl (fun w s => Roots_calls _ _  s )) rfl ?_; rintro _ _ ⟨ao6, ac6, rfl, rfl⟩
          refine ol_q (wn_none rfl) (op_len_slice Try.underlying45 rfl) rfl ?_
          refine ol_q (wn_none rfl) (op_move (v := .int _ _) rfl) rfl ?_
          refine ol_nil_then ?_
          refine cd_block ?_
          refine cd_loop2 (α := Nat) [(4, 4), (9, 9), (11, 11), (13, 17), (57, 99)] (fun x => [(9, .int .i64 ((kidsum t x : Nat) : Int)), (57, .int .i64 (x : Int))]) (fun _ => _) (fun x => x ≤ t.nodes.length) (fun x => t.nodes.length - x) 0 (Nat.zero_le _) ⟨rfl, rfl, trivial⟩ (fun _ s => s) ?_
          intro x2 hx2 f; (try dsimp only at hx2 ⊢)
          refine cd_sr ?_   -- 15
          refine ol_q (wn_none rfl) (op_lt rfl rfl) rfl ?_
          refine ol_nil_then ?_
          refine cd_seq ?_
          refine cd_cond rfl (fun hb6 => ?_) (fun hb6 => ?_)
          · have hp6 := hb6
            (try simp only [decide_eq_true_eq, decide_eq_false_iff_not, Bool.not_eq_true', Bool.not_eq_false', ne_eq, Decidable.not_not] at hp6)
            refine cd_skip ?_
            refine px_then ?_
            refine cd_seq ?_
            refine cd_block ?_
            have hri : t.roots[x2] = t.nodes[x2].root := by simp [TreeS.roots]
            have hks := kidsum_le hwf (i := x2) (by omega)
            have hkl := kids_len t t.roots[x2]
            refine cd_sr ?_   -- 16
            refine ol_q (wn_none rfl) (op_index _ sB_45 rfl rfl rfl (rds_row 0 rfl rfl) rfl (by omega)) rfl ?_
            refine ol_q (wn_none rfl) (op_ldaw (L := rootC _) ag_30 (rds_row 0 rfl rfl) rfl (by omega) rfl (rootC_ta _)) rfl ?_
            refine ol_i (wn_none rfl) (os_alloc (cs := (rootC Root.zero).toArray) zB_30 (by kernel_rfl)) rfl ?_; rintro _ _ ⟨bx2, rfl, rfl⟩
            refine ol_iN (wn_none rfl) (os_storera _ ag_30 rfl rfl (Free.zero _)) ?_; rintro _ _ ⟨rfl, rfl⟩
            refine ol_nil_then ?_
            refine cd_sr ?_   -- 17
            refine ol_q (wn_none rfl) (op_move (v := .pointer _) rfl) rfl ?_
            refine ol_q (wn_none rfl) (op_lda (L := rootC _) 0 ag_30 rfl rfl (rootC_take' _) (by simp [rootC_len])) rfl ?_
            refine ol_pull2 ?_
            refine ol_i (wn_none rfl) (os_call cb_26 rfl (fun w s => Kids_calls _ _ _  s )) rfl ?_; rintro _ _ ⟨ao7k, ac7k, rfl, rfl⟩
            refine ol_q (wn_none rfl) (op_len_slice Try.underlying45 rfl) rfl ?_
            refine ol_q (wn_none rfl) (op_move (v := .int _ _) rfl) rfl ?_
            refine ol_nil_then ?_
            refine cd_block ?_
            refine cd_loop2 (α := Nat) [(4, 4), (9, 9), (13, 17), (65, 98)] (fun x => [(9, .int .i64 ((kidsum t x2 + x : Nat) : Int)), (65, .int .i64 (x : Int))]) (fun _ => _) (fun x => x ≤ (t.kids t.roots[x2]).length) (fun x => (t.kids t.roots[x2]).length - x) 0 (Nat.zero_le _) ⟨rfl, rfl, trivial⟩ (fun _ s => s) ?_
            intro y2 hy2 f; (try dsimp only at hy2 ⊢)
            refine cd_sr ?_   -- 18
            refine ol_q (wn_none rfl) (op_lt rfl rfl) rfl ?_
            refine ol_nil_then ?_
            refine cd_seq ?_
            refine cd_cond rfl (fun hb7 => ?_) (fun hb7 => ?_)
            · have hp7 := hb7
              (try simp only [decide_eq_true_eq, decide_eq_false_iff_not, Bool.not_eq_true', Bool.not_eq_false', ne_eq, Decidable.not_not] at hp7)
              obtain ⟨b, m, hpl, hnd, hmp⟩ := kid_at hwf (i := x2) (by omega) hri (y := y2) (by omega)
              refine cd_skip ?_
              refine px_then ?_
              refine cd_seq ?_
              refine cd_block ?_
              refine cd_sr ?_   -- 19
              refine ol_q (wn_none rfl) (op_index _ sB_45 rfl rfl rfl (rds_row 0 rfl rfl) rfl (by omega)) rfl ?_
              refine ol_q (wn_none rfl) (op_ldaw (L := rootC _) ag_30 (rds_row 0 rfl rfl) rfl (by omega) rfl (rootC_ta _)) rfl ?_
              refine ol_i (wn_none rfl) (os_alloc (cs := (rootC Root.zero).toArray) zB_30 (by kernel_rfl)) rfl ?_; rintro _ _ ⟨bx3, rfl, rfl⟩
              refine ol_iN (wn_none rfl) (os_storera _ ag_30 rfl rfl (Free.zero _)) ?_; rintro _ _ ⟨rfl, rfl⟩
              refine ol_nil_then ?_
              refine cd_sr ?_   -- 20
              refine ol_q (wn_none rfl) (op_move (v := .int _ _) rfl) rfl ?_
              refine ol_q (wn_none rfl) (op_add rfl rfl (by omega) (by omega)) rfl ?_
              refine ol_q (wn_none rfl) (op_assign (v := .int _ _) rfl) rfl ?_
              refine ol_nil_then ?_
              refine cd_sr ?_   -- 21
              refine ol_q (wn_none rfl) (op_move (v := .pointer _) rfl) rfl ?_
              refine ol_q (wn_none rfl) (op_move (v := .pointer _) rfl) rfl ?_
              refine ol_q (wn_none rfl) (op_lda (L := rootC _) 0 ag_30 rfl rfl (rootC_take' _) (by simp [rootC_len])) rfl ?_
              refine ol_pull2 ?_
              refine ol_i (wn_none rfl) (os_call cb_28 rfl (fun w s => Place_calls _ _ _  s )) rfl ?_; rintro _ _ ⟨rfl, rfl⟩; rw [hpl]
              refine ol_i (wn_none rfl) (os_call cb_18 rfl (fun w s => Node_calls _ _ _  s )) rfl ?_; rintro _ _ ⟨rfl, rfl⟩; rw [hnd]; simp only [Option.getD_some, Option.isSome_some]
              refine ol_q (wn_none rfl) (op_move (v := .tuple _) rfl) rfl ?_
              refine ol_q (wn_none rfl) (op_extract (v := .agg _) rfl rfl) rfl ?_
              refine ol_q (wn_none rfl) (op_extract (v := .bool _) rfl rfl) rfl ?_
              refine ol_i (wn_none rfl) (os_alloc (cs := (nodeC Node.zero).toArray) zB_32 (by kernel_rfl)) rfl ?_; rintro _ _ ⟨bx4, rfl, rfl⟩
              refine ol_iN (wn_none rfl) (os_storew (nodeC _) ag_32 rfl rfl (nodeC_len _) (nodeC_one _) (by simp [nodeC_len]) (Free.zero _)) ?_; rintro _ _ ⟨rfl, rfl⟩
              refine ol_q (wn_none rfl) (op_assign (v := .bool _) rfl) rfl ?_
              refine ol_nil_then ?_
              refine cd_sr ?_   -- 22
              refine ol_q (wn_none rfl) (op_move (v := .pointer _) rfl) rfl ?_
              refine ol_q (wn_none rfl) (op_field fld_32_2 rfl) rfl ?_
              refine ol_q (wn_none rfl) (op_ld 0 sc_3 rfl rfl (nodeC_a33 _)) rfl ?_
              refine ol_pull1 ?_
              refine ol_i (wn_none rfl) (os_call cb_18 rfl (fun w s => Node_calls _ _ _  s )) rfl ?_; rintro _ _ ⟨rfl, rfl⟩; rw [hmp, TreeS.node_nat (show x2 < t.nodes.length by omega)]; simp only [Option.getD_some, Option.isSome_some]
              refine ol_q (wn_none rfl) (op_move (v := .tuple _) rfl) rfl ?_
              refine ol_q (wn_none rfl) (op_extract (v := .agg _) rfl rfl) rfl ?_
              refine ol_q (wn_none rfl) (op_extract (v := .bool _) rfl rfl) rfl ?_
              refine ol_i (wn_none rfl) (os_alloc (cs := (nodeC Node.zero).toArray) zB_32 (by kernel_rfl)) rfl ?_; rintro _ _ ⟨bx5, rfl, rfl⟩
              refine ol_iN (wn_none rfl) (os_storew (nodeC _) ag_32 rfl rfl (nodeC_len _) (nodeC_one _) (by simp [nodeC_len]) (Free.zero _)) ?_; rintro _ _ ⟨rfl, rfl⟩
              refine ol_q (wn_none rfl) (op_assign (v := .bool _) rfl) rfl ?_
              refine ol_nil_then ?_
              refine cd_sr ?_   -- 23
              refine ol_q (wn_none rfl) (op_move (v := .bool _) rfl) rfl ?_
              refine ol_q (wn_none rfl) (op_not rfl) rfl ?_
              refine ol_q (wn_none rfl) (op_move (v := .bool _) rfl) rfl ?_
              refine ol_split 88 rfl (fun hb8 => ?_) (fun hb8 => ?_)
              · have hp8 := hb8
                (try simp only [decide_eq_true_eq, decide_eq_false_iff_not, Bool.not_eq_true', Bool.not_eq_false', ne_eq, Decidable.not_not] at hp8)
                exact absurd hb8 (by simp)
              · have hp8 := hb8
                (try simp only [decide_eq_true_eq, decide_eq_false_iff_not, Bool.not_eq_true', Bool.not_eq_false', ne_eq, Decidable.not_not] at hp8)
                refine ol_q (wn_some rfl rfl rfl hb8 rfl) (op_move (v := .bool _) rfl) rfl ?_
                refine ol_q (wn_some rfl rfl rfl hb8 rfl) (op_not rfl) rfl ?_
                refine ol_q (wn_none rfl) (op_pick_f (v := .bool _) rfl hb8 rfl) rfl ?_
                refine ol_q (wn_none rfl) (op_move (v := .bool _) rfl) rfl ?_
                refine ol_split 92 rfl (fun hb9 => ?_) (fun hb9 => ?_)
                · have hp9 := hb9
                  (try simp only [decide_eq_true_eq, decide_eq_false_iff_not, Bool.not_eq_true', Bool.not_eq_false', ne_eq, Decidable.not_not] at hp9)
                  exact absurd hb9 (by simp)
                · have hp9 := hb9
                  (try simp only [decide_eq_true_eq, decide_eq_false_iff_not, Bool.not_eq_true', Bool.not_eq_false', ne_eq, Decidable.not_not] at hp9)
                  refine ol_q (wn_some rfl rfl rfl hb9 rfl) (op_field fld_32_0 rfl) rfl ?_
                  refine ol_q (wn_some rfl rfl rfl hb9 rfl) (op_lda (L := rootC _) 0 ag_30 rfl rfl (nodeC_af0 _) (by simp [nodeC_len])) rfl ?_
                  refine ol_q (wn_some rfl rfl rfl hb9 rfl) (op_lda (L := rootC _) 5 ag_30 rfl rfl (rootC_take' _) (by simp [rootC_len])) rfl ?_
                  refine ol_q (wn_some rfl rfl rfl hb9 rfl) (op_neroot _ _ rB_30 rfl rfl) rfl ?_
                  refine ol_q (wn_none rfl) (op_pick_f (v := .bool _) rfl hb9 rfl) rfl ?_
                  refine ol_nil_then ?_
                  refine cd_cond rfl (fun hb10 => ?_) (fun hb10 => ?_)
                  · have hp10 := hb10
                    (try simp only [decide_eq_true_eq, decide_eq_false_iff_not, Bool.not_eq_true', Bool.not_eq_false', ne_eq, Decidable.not_not] at hp10)
                    exact absurd hb10 (by simp [hri])
                  · have hp10 := hb10
                    (try simp only [decide_eq_true_eq, decide_eq_false_iff_not, Bool.not_eq_true', Bool.not_eq_false', ne_eq, Decidable.not_not] at hp10)
                    refine cd_skip ?_
                    refine px_blockN ?_
                    refine px_then ?_
                    refine cd_region ?_   -- 25
                    refine ol_q (wn_none rfl) (op_add rfl rfl (by omega) (by omega)) rfl ?_
                    refine ol_q (wn_none rfl) (op_move (v := .int _ _) rfl) rfl ?_
                    refine ol_nil ?_
                    refine px_loop2 (y2 + 1) (by omega) (by (try dsimp only); omega) ⟨congrArg (Value.int .i64) (by simp; omega), congrArg (Value.int .i64) (by simp), trivial⟩ ?_ (fun _ s => (((((((s.del 3).del 2).del 0).pull 3).pull 3).pull 2).pull 3))
                    repeat (first | exact kept_over | refine kept_upd rfl ?_ | refine kept_overS (by decide) ?_)
            · have hp7 := hb7
              (try simp only [decide_eq_true_eq, decide_eq_false_iff_not, Bool.not_eq_true', Bool.not_eq_false', ne_eq, Decidable.not_not] at hp7)
              refine cd_exit ?_
              refine px_thenE ?_
              refine px_thenE ?_
              refine px_blockE ?_
              refine px_blockN ?_
              refine px_then ?_
              refine cd_region ?_   -- 26
              refine ol_q (wn_none rfl) (op_add rfl rfl (by omega) (by omega)) rfl ?_
              refine ol_q (wn_none rfl) (op_move (v := .int _ _) rfl) rfl ?_
              refine ol_nil ?_
              have e2 := kidsum_succ t (i := x2) (by omega) hri
              refine px_loop2 (x2 + 1) (by omega) (by (try dsimp only); omega) ⟨congrArg (Value.int .i64) (by omega), congrArg (Value.int .i64) (by simp), trivial⟩ ?_ (fun _ s => (((s.del 2).del 0).pull 1))
              repeat (first | exact kept_over | refine kept_upd rfl ?_ | refine kept_overS (by decide) ?_)
          · have hp6 := hb6
            (try simp only [decide_eq_true_eq, decide_eq_false_iff_not, Bool.not_eq_true', Bool.not_eq_false', ne_eq, Decidable.not_not] at hp6)
            refine cd_exit ?_
            refine px_thenE ?_
            refine px_thenE ?_
            refine px_blockE ?_
            refine px_then ?_
            refine cd_sr ?_   -- 27
            refine ol_q (wn_none rfl) (op_move (v := .int _ _) rfl) rfl ?_
            refine ol_q (wn_none rfl) (op_move (v := .pointer _) rfl) rfl ?_
            refine ol_pull1 ?_
            refine ol_i (wn_none rfl) (os_call cb_17 rfl (fun w s => Len_calls _ _  s )) rfl ?_; rintro _ _ ⟨rfl, rfl⟩
            refine ol_q (wn_none rfl) (op_sub rfl rfl (by omega) (by omega)) rfl ?_
            refine ol_q (wn_none rfl) (op_eq rfl rfl) rfl ?_
            refine ol_q (wn_none rfl) (op_move (v := .bool _) rfl) rfl ?_
            refine ol_split 105 rfl (fun hb11 => ?_) (fun hb11 => ?_)
            · have hp11 := hb11
              (try simp only [decide_eq_true_eq, decide_eq_false_iff_not, Bool.not_eq_true', Bool.not_eq_false', ne_eq, Decidable.not_not] at hp11)
              refine ol_q (wn_some rfl rfl rfl hb11 rfl) (op_move (v := .pointer _) rfl) rfl ?_
              refine ol_i (wn_some rfl rfl rfl hb11 rfl) (os_call cb_17 rfl (fun w s => Len_calls _ _  s )) rfl ?_; rintro _ _ ⟨rfl, rfl⟩
              refine ol_q (wn_some rfl rfl rfl hb11 rfl) (op_move (v := .pointer _) rfl) rfl ?_
              refine ol_i (wn_some rfl rfl rfl hb11 rfl) (os_call cb_23 rfl (fun w s => Room_calls _ _  s )) rfl ?_; rintro _ _ ⟨rfl, rfl⟩
              refine ol_q (wn_some rfl rfl rfl hb11 rfl) (op_add rfl rfl (by omega) (by omega)) rfl ?_
              refine ol_q (wn_some rfl rfl rfl hb11 rfl) (op_move (v := .int _ _) rfl) rfl ?_
              refine ol_q (wn_some rfl rfl rfl hb11 rfl) (op_eq rfl rfl) rfl ?_
              refine ol_q (wn_none rfl) (op_pick_t (v := .bool _) rfl hb11 rfl) rfl ?_
              refine ol_q (wn_none rfl) (op_assign (v := .bool _) rfl) rfl ?_
              refine ol_nil_then ?_
              refine cd_ret ?_
              exact px_ret1 rfl (v := .bool _) rfl (fun _ s => ((s.del 1).del 0)) ⟨congrArg Value.bool (by first | rfl | (apply decide_eq_true; omega) | (simp; omega)), rfl⟩
            · have hp11 := hb11
              (try simp only [decide_eq_true_eq, decide_eq_false_iff_not, Bool.not_eq_true', Bool.not_eq_false', ne_eq, Decidable.not_not] at hp11)
              exact absurd hb11 (by (have h0 : x2 = t.nodes.length := by omega); (have := kidsum_all hwf); rw [h0]; simp; omega)
end Go.SL

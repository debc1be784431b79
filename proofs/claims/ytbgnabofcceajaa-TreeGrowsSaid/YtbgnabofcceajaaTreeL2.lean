import Derived.Test.YtbgnabofcceajaaTreeL
set_option linter.unusedVariables false
set_option linter.unusedSimpArgs false
namespace Go.SL
open Go.Proofs

set_option maxRecDepth 100000 in
set_option maxHeartbeats 1000000 in
theorem treeAlive_calls {w0 w : World} {l : List HProp}  (hs : Sat w0 w (l))  :
    Calls Try.prog 15 #[] w (Ret w0 fun v l' => v = .bool true ∧ l' = l) := by
  refine calls_enter Try.func15 rfl rfl rfl hs ?_
  refine cd_sr ?_   -- 0
  refine ol_q (wn_none rfl) (op_assign (v := .bool _) rfl) rfl ?_
  refine ol_nil_then ?_
  refine cd_sr ?_   -- 1
  refine ol_i (wn_none rfl) (os_call cb_20 rfl (fun w s => Name_calls (n := 1)  s )) rfl ?_; rintro _ l ⟨rfl, rfl⟩
  refine ol_i (wn_none rfl) (os_call cb_20 rfl (fun w s => Name_calls (n := 2)  s )) rfl ?_; rintro _ l ⟨rfl, rfl⟩
  refine ol_i (wn_none rfl) (os_alloc (cs := (rootC Root.zero).toArray) zB_30 (by kernel_rfl)) rfl ?_; rintro _ _ ⟨bx1, rfl, rfl⟩
  refine ol_i (wn_none rfl) (os_alloc (cs := (rootC Root.zero).toArray) zB_30 (by kernel_rfl)) rfl ?_; rintro _ _ ⟨bx2, rfl, rfl⟩
  refine ol_pull1 ?_
  refine ol_iN (wn_none rfl) (os_storera _ ag_30 rfl rfl (Free.zero _)) ?_; rintro _ _ ⟨rfl, rfl⟩
  refine ol_pull1 ?_
  refine ol_iN (wn_none rfl) (os_storera _ ag_30 rfl rfl (Free.zero _)) ?_; rintro _ _ ⟨rfl, rfl⟩
  refine ol_nil_then ?_
  refine cd_sr ?_   -- 2
  refine ol_q (wn_none rfl) (op_lda (L := rootC _) 1 ag_30 rfl rfl (rootC_take' _) (by simp [rootC_len])) rfl ?_
  refine ol_i (wn_none rfl) (os_call cb_21 rfl (fun w s => TNew_calls _ _ _ s)) rfl ?_; rintro _ l2 (⟨rfl, hl2, hbad1⟩ | ⟨p1, rfl, hok1, rfl⟩)
  · exact absurd hbad1 (by omega)
  · have hob1 := hok1
    refine ol_q (wn_none rfl) (op_move (v := .tuple _) rfl) rfl ?_
    refine ol_q (wn_none rfl) (op_extract (v := .pointer _) rfl rfl) rfl ?_
    refine ol_q (wn_none rfl) (op_extract (v := .int _ _) rfl rfl) rfl ?_
    refine ol_q (wn_none rfl) (op_assign (v := .pointer _) rfl) rfl ?_
    refine ol_q (wn_none rfl) (op_assign (v := .int _ _) rfl) rfl ?_
    refine ol_nil_then ?_
    refine cd_sr ?_   -- 3
    refine ol_q (wn_none rfl) (op_move (v := .int _ _) rfl) rfl ?_
    refine ol_q (wn_none rfl) (op_eq rfl rfl) rfl ?_
    refine ol_q (wn_none rfl) (op_move (v := .bool _) rfl) rfl ?_
    refine ol_split 14 rfl (fun hb1 => ?_) (fun hb1 => ?_)
    · have hp1 := hb1
      (try simp only [decide_eq_true_eq, decide_eq_false_iff_not, Bool.not_eq_true', Bool.not_eq_false', ne_eq, Decidable.not_not] at hp1)
      refine ol_q (wn_some rfl rfl rfl hb1 rfl) (op_move (v := .pointer _) rfl) rfl ?_
      refine ol_q (wn_some rfl rfl rfl hb1 rfl) (op_lda (L := rootC _) 1 ag_30 rfl rfl (rootC_take' _) (by simp [rootC_len])) rfl ?_
      refine ol_q (wn_some rfl rfl rfl hb1 rfl) (op_lda (L := rootC _) 2 ag_30 rfl rfl (rootC_take' _) (by simp [rootC_len])) rfl ?_
      refine ol_i (wn_some rfl rfl rfl hb1 rfl) (os_call cb_22 rfl (fun w s => Add_calls (slot := 3) _ _ _ _  s )) rfl ?_; rintro _ _ ⟨rfl, rfl⟩
      refine ol_q (wn_some rfl rfl rfl hb1 rfl) (op_eq rfl rfl) rfl ?_
      refine ol_q (wn_none rfl) (op_pick_t (v := .bool _) rfl hb1 rfl) rfl ?_
      refine ol_q (wn_none rfl) (op_move (v := .bool _) rfl) rfl ?_
      refine ol_split 21 rfl (fun hb2 => ?_) (fun hb2 => ?_)
      · have hp2 := hb2
        (try simp only [decide_eq_true_eq, decide_eq_false_iff_not, Bool.not_eq_true', Bool.not_eq_false', ne_eq, Decidable.not_not] at hp2)
        refine ol_q (wn_some rfl rfl rfl hb2 rfl) (op_move (v := .pointer _) rfl) rfl ?_
        refine ol_q (wn_some rfl rfl rfl hb2 rfl) (op_lda (L := rootC _) 1 ag_30 rfl rfl (rootC_take' _) (by simp [rootC_len])) rfl ?_
        refine ol_q (wn_some rfl rfl rfl hb2 rfl) (op_lda (L := rootC _) 2 ag_30 rfl rfl (rootC_take' _) (by simp [rootC_len])) rfl ?_
        refine ol_i (wn_some rfl rfl rfl hb2 rfl) (os_call cb_22 rfl (fun w s => Add_calls (slot := 3) _ _ _ _  s )) rfl ?_; rintro _ _ ⟨rfl, rfl⟩
        refine ol_q (wn_some rfl rfl rfl hb2 rfl) (op_eq rfl rfl) rfl ?_
        refine ol_q (wn_none rfl) (op_pick_t (v := .bool _) rfl hb2 rfl) rfl ?_
        refine ol_q (wn_none rfl) (op_move (v := .bool _) rfl) rfl ?_
        refine ol_split 28 rfl (fun hb3 => ?_) (fun hb3 => ?_)
        · have hp3 := hb3
          (try simp only [decide_eq_true_eq, decide_eq_false_iff_not, Bool.not_eq_true', Bool.not_eq_false', ne_eq, Decidable.not_not] at hp3)
          refine ol_q (wn_some rfl rfl rfl hb3 rfl) (op_move (v := .pointer _) rfl) rfl ?_
          refine ol_q (wn_some rfl rfl rfl hb3 rfl) (op_lda (L := rootC _) 1 ag_30 rfl rfl (rootC_take' _) (by simp [rootC_len])) rfl ?_
          refine ol_i (wn_some rfl rfl rfl hb3 rfl) (os_call cb_28 rfl (fun w s => Place_calls _ _ _  s )) rfl ?_; rintro _ _ ⟨rfl, rfl⟩
          refine ol_q (wn_some rfl rfl rfl hb3 rfl) (op_eq rfl rfl) rfl ?_
          refine ol_q (wn_none rfl) (op_pick_t (v := .bool _) rfl hb3 rfl) rfl ?_
          refine ol_q (wn_none rfl) (op_move (v := .bool _) rfl) rfl ?_
          refine ol_split 34 rfl (fun hb4 => ?_) (fun hb4 => ?_)
          · have hp4 := hb4
            (try simp only [decide_eq_true_eq, decide_eq_false_iff_not, Bool.not_eq_true', Bool.not_eq_false', ne_eq, Decidable.not_not] at hp4)
            refine ol_q (wn_some rfl rfl rfl hb4 rfl) (op_move (v := .pointer _) rfl) rfl ?_
            refine ol_q (wn_some rfl rfl rfl hb4 rfl) (op_lda (L := rootC _) 2 ag_30 rfl rfl (rootC_take' _) (by simp [rootC_len])) rfl ?_
            refine ol_q (wn_some rfl rfl rfl hb4 rfl) (op_lda (L := rootC _) 1 ag_30 rfl rfl (rootC_take' _) (by simp [rootC_len])) rfl ?_
            refine ol_i (wn_some rfl rfl rfl hb4 rfl) (os_call cb_19 rfl (fun w s => Below_calls _ _ _ _  s )) rfl ?_; rintro _ _ ⟨rfl, rfl⟩
            refine ol_q (wn_none rfl) (op_pick_t (v := .bool _) rfl hb4 rfl) rfl ?_
            refine ol_q (wn_none rfl) (op_move (v := .bool _) rfl) rfl ?_
            refine ol_split 40 rfl (fun hb5 => ?_) (fun hb5 => ?_)
            · have hp5 := hb5
              (try simp only [decide_eq_true_eq, decide_eq_false_iff_not, Bool.not_eq_true', Bool.not_eq_false', ne_eq, Decidable.not_not] at hp5)
              refine ol_q (wn_some rfl rfl rfl hb5 rfl) (op_move (v := .pointer _) rfl) rfl ?_
              refine ol_q (wn_some rfl rfl rfl hb5 rfl) (op_lda (L := rootC _) 1 ag_30 rfl rfl (rootC_take' _) (by simp [rootC_len])) rfl ?_
              refine ol_q (wn_some rfl rfl rfl hb5 rfl) (op_lda (L := rootC _) 2 ag_30 rfl rfl (rootC_take' _) (by simp [rootC_len])) rfl ?_
              refine ol_i (wn_some rfl rfl rfl hb5 rfl) (os_call cb_19 rfl (fun w s => Below_calls _ _ _ _  s )) rfl ?_; rintro _ _ ⟨rfl, rfl⟩
              refine ol_q (wn_some rfl rfl rfl hb5 rfl) (op_not rfl) rfl ?_
              refine ol_q (wn_none rfl) (op_pick_t (v := .bool _) rfl hb5 rfl) rfl ?_
              refine ol_q (wn_none rfl) (op_move (v := .bool _) rfl) rfl ?_
              refine ol_split 47 rfl (fun hb6 => ?_) (fun hb6 => ?_)
              · have hp6 := hb6
                (try simp only [decide_eq_true_eq, decide_eq_false_iff_not, Bool.not_eq_true', Bool.not_eq_false', ne_eq, Decidable.not_not] at hp6)
                refine ol_q (wn_some rfl rfl rfl hb6 rfl) (op_move (v := .pointer _) rfl) rfl ?_
                refine ol_i (wn_some rfl rfl rfl hb6 rfl) (os_call cb_17 rfl (fun w s => Len_calls _ _  s )) rfl ?_; rintro _ _ ⟨rfl, rfl⟩
                refine ol_q (wn_some rfl rfl rfl hb6 rfl) (op_eq rfl rfl) rfl ?_
                refine ol_q (wn_none rfl) (op_pick_t (v := .bool _) rfl hb6 rfl) rfl ?_
                refine ol_q (wn_none rfl) (op_assign (v := .bool _) rfl) rfl ?_
                refine ol_nil_then ?_
                refine cd_ret ?_
                exact px_ret1 rfl (v := .bool _) rfl (fun _ s => (((s.del 2).del 1).del 0)) ⟨congrArg Value.bool (by decide +kernel), rfl⟩
              · have hp6 := hb6
                (try simp only [decide_eq_true_eq, decide_eq_false_iff_not, Bool.not_eq_true', Bool.not_eq_false', ne_eq, Decidable.not_not] at hp6)
                exact absurd hb6 (by decide +kernel)
            · have hp5 := hb5
              (try simp only [decide_eq_true_eq, decide_eq_false_iff_not, Bool.not_eq_true', Bool.not_eq_false', ne_eq, Decidable.not_not] at hp5)
              exact absurd hb5 (by decide +kernel)
          · have hp4 := hb4
            (try simp only [decide_eq_true_eq, decide_eq_false_iff_not, Bool.not_eq_true', Bool.not_eq_false', ne_eq, Decidable.not_not] at hp4)
            exact absurd hb4 (by decide +kernel)
        · have hp3 := hb3
          (try simp only [decide_eq_true_eq, decide_eq_false_iff_not, Bool.not_eq_true', Bool.not_eq_false', ne_eq, Decidable.not_not] at hp3)
          exact absurd hb3 (by decide +kernel)
      · have hp2 := hb2
        (try simp only [decide_eq_true_eq, decide_eq_false_iff_not, Bool.not_eq_true', Bool.not_eq_false', ne_eq, Decidable.not_not] at hp2)
        exact absurd hb2 (by decide +kernel)
    · have hp1 := hb1
      (try simp only [decide_eq_true_eq, decide_eq_false_iff_not, Bool.not_eq_true', Bool.not_eq_false', ne_eq, Decidable.not_not] at hp1)
      exact absurd hb1 (by decide +kernel)

set_option maxRecDepth 100000 in
set_option maxHeartbeats 1000000 in
theorem treeMade_calls {w0 w : World} {l : List HProp} (ao : Option Addr) (c : Nat) (xs : List TAdd) (hs : Sat w0 w (l)) (hr : Rds w0 l encTAdd ao xs) (hxl : xs.length ≤ 1000000) :
    Calls Try.prog 16 #[.slice ao xs.length c] w (Ret w0 fun v l' => ∃ p q, v = .tuple #[.pointer (some ⟨p, 0, none⟩), .pointer (some ⟨q, 0, none⟩)] ∧ l' = RTreeObj q ((TreeS.new (nameR 0) 0 256).adds xs) :: TreeObj p ((TreeS.new (nameR 0) 0 256).adds xs) :: l) := by
  refine calls_enter Try.func16 rfl rfl rfl hs ?_
  refine cd_sr ?_   -- 0
  refine ol_q (wn_none rfl) (op_assign (v := .pointer _) rfl) rfl ?_
  refine ol_q (wn_none rfl) (op_assign (v := .pointer _) rfl) rfl ?_
  refine ol_nil_then ?_
  refine cd_sr ?_   -- 1
  refine ol_i (wn_none rfl) (os_call cb_20 rfl (fun w s => Name_calls (n := 0)  s )) rfl ?_; rintro _ l ⟨rfl, rfl⟩
  refine ol_i (wn_none rfl) (os_call cb_21 rfl (fun w s => TNew_calls _ _ _ s)) rfl ?_; rintro _ l2 (⟨rfl, hl2, hbad1⟩ | ⟨p1, rfl, hok1, rfl⟩)
  · exact absurd hbad1 (by omega)
  · have hob1 := hok1
    refine ol_q (wn_none rfl) (op_move (v := .tuple _) rfl) rfl ?_
    refine ol_q (wn_none rfl) (op_extract (v := .pointer _) rfl rfl) rfl ?_
    refine ol_q (wn_none rfl) (op_extract (v := .int _ _) rfl rfl) rfl ?_
    refine ol_q (wn_none rfl) (op_assign (v := .pointer _) rfl) rfl ?_
    refine ol_q (wn_none rfl) (op_assign (v := .int _ _) rfl) rfl ?_
    refine ol_nil_then ?_
    refine cd_sr ?_   -- 2
    refine ol_i (wn_none rfl) (os_call cb_20 rfl (fun w s => Name_calls (n := 0)  s )) rfl ?_; rintro _ l ⟨rfl, rfl⟩
    refine ol_i (wn_none rfl) (os_call cb_30 rfl (fun w s => RTNew_calls _ _ _ s)) rfl ?_; rintro _ l2 (⟨rfl, hl2, hbad2⟩ | ⟨p2, rfl, hok2, rfl⟩)
    · exact absurd hbad2 (by omega)
    · have hob2 := hok2
      refine ol_q (wn_none rfl) (op_move (v := .tuple _) rfl) rfl ?_
      refine ol_q (wn_none rfl) (op_extract (v := .pointer _) rfl rfl) rfl ?_
      refine ol_q (wn_none rfl) (op_extract (v := .bool _) rfl rfl) rfl ?_
      refine ol_q (wn_none rfl) (op_assign (v := .pointer _) rfl) rfl ?_
      refine ol_q (wn_none rfl) (op_assign (v := .bool _) rfl) rfl ?_
      refine ol_nil_then ?_
      refine cd_seq ?_
      refine cd_sr ?_   -- 3
      refine ol_q (wn_none rfl) (op_move (v := .slice _ _ _) rfl) rfl ?_
      refine ol_q (wn_none rfl) (op_len_slice Try.underlying22 rfl) rfl ?_
      refine ol_q (wn_none rfl) (op_move (v := .int _ _) rfl) rfl ?_
      refine ol_nil_then ?_
      refine cd_block ?_
      refine cd_loop2 (α := Nat) [(9, 9), (22, 46)] (fun x => [(22, .int .i64 (x : Int))]) (fun x => RTreeObj p2 ((TreeS.new (nameR 0) 0 256).adds (xs.take x)) :: TreeObj p1 ((TreeS.new (nameR 0) 0 256).adds (xs.take x)) :: l) (fun x => x ≤ xs.length) (fun x => xs.length - x) 0 (Nat.zero_le _) ⟨rfl, trivial⟩ (fun _ s => s) ?_
      intro i hi f; (try dsimp only at hi ⊢)
      refine cd_sr ?_   -- 4
      refine ol_q (wn_none rfl) (op_lt rfl rfl) rfl ?_
      refine ol_nil_then ?_
      refine cd_seq ?_
      refine cd_cond rfl (fun hb1 => ?_) (fun hb1 => ?_)
      · have hp1 := hb1
        (try simp only [decide_eq_true_eq, decide_eq_false_iff_not, Bool.not_eq_true', Bool.not_eq_false', ne_eq, Decidable.not_not] at hp1)
        refine cd_skip ?_
        refine px_then ?_
        refine cd_seq ?_
        refine cd_block ?_
        refine cd_sr ?_   -- 5
        refine ol_q (wn_none rfl) (op_index _ sB_22 rfl rfl rfl ((hr.cons _).cons _) rfl (by omega)) rfl ?_
        refine ol_q (wn_none rfl) (op_ldaw (L := tAddC _) ag_54 ((hr.cons _).cons _) rfl (by omega) rfl (tAddC_ta _)) rfl ?_
        refine ol_i (wn_none rfl) (os_alloc (cs := (tAddC TAdd.zero).toArray) zB_54 (by kernel_rfl)) rfl ?_; rintro _ _ ⟨bx1, rfl, rfl⟩
        refine ol_iN (wn_none rfl) (os_storew (tAddC _) ag_54 rfl rfl (tAddC_len _) (tAddC_one _) (by simp [tAddC_len]) (Free.zero _)) ?_; rintro _ _ ⟨rfl, rfl⟩
        refine ol_nil_then ?_
        refine cd_pull2 ?_
        refine cd_seq ?_   -- 6
        refine cd_draw (M := [_]) mx [3, 6, 9] (by kernel_rfl) ?_
        refine rg_q (wn_none rfl) (op_move (v := .pointer _) rfl) rfl rfl ?_
        refine rg_q (wn_none rfl) (op_field fld_54_0 rfl) rfl rfl ?_
        refine rg_q (wn_none rfl) (op_ld 0 sc_3 rfl rfl (tAddC_a0 _)) rfl rfl ?_
        refine rg_i (wn_none rfl) (os_call cb_20 rfl (fun w s => Name_calls _  s )) rfl rfl ?_; rintro _ l ⟨rfl, rfl⟩; refine ⟨[_], rfl, ?_⟩
        refine rg_q (wn_none rfl) (op_field fld_54_1 rfl) rfl rfl ?_
        refine rg_q (wn_none rfl) (op_ld 0 sc_3 rfl rfl (tAddC_a1 _)) rfl rfl ?_
        refine rg_i (wn_none rfl) (os_call cb_20 rfl (fun w s => Name_calls _  s )) rfl rfl ?_; rintro _ l ⟨rfl, rfl⟩; refine ⟨[_], rfl, ?_⟩
        refine rg_q (wn_none rfl) (op_field fld_54_2 rfl) rfl rfl ?_
        refine rg_q (wn_none rfl) (op_ld 0 sc_3 rfl rfl (tAddC_a2 _)) rfl rfl ?_
        refine rg_i (wn_none rfl) (os_call cb_22 rfl (fun w s => Add_calls _ _ _ _ _  s )) rfl rfl ?_; rintro _ _ ⟨rfl, rfl⟩; refine ⟨[_], rfl, ?_⟩
        refine rg_nil_then1 ?_
        refine cd_pull2 ?_
        -- 7
        refine cd_draw (M := [_]) mx [3, 6, 9] (by kernel_rfl) ?_
        refine rg_q (wn_none rfl) (op_move (v := .pointer _) rfl) rfl rfl ?_
        refine rg_q (wn_none rfl) (op_field fld_54_0 rfl) rfl rfl ?_
        refine rg_q (wn_none rfl) (op_ld 1 sc_3 rfl rfl (tAddC_a0 _)) rfl rfl ?_
        refine rg_i (wn_none rfl) (os_call cb_20 rfl (fun w s => Name_calls _  s )) rfl rfl ?_; rintro _ l ⟨rfl, rfl⟩; refine ⟨[_], rfl, ?_⟩
        refine rg_q (wn_none rfl) (op_field fld_54_1 rfl) rfl rfl ?_
        refine rg_q (wn_none rfl) (op_ld 1 sc_3 rfl rfl (tAddC_a1 _)) rfl rfl ?_
        refine rg_i (wn_none rfl) (os_call cb_20 rfl (fun w s => Name_calls _  s )) rfl rfl ?_; rintro _ l ⟨rfl, rfl⟩; refine ⟨[_], rfl, ?_⟩
        refine rg_q (wn_none rfl) (op_field fld_54_2 rfl) rfl rfl ?_
        refine rg_q (wn_none rfl) (op_ld 1 sc_3 rfl rfl (tAddC_a2 _)) rfl rfl ?_
        refine rg_i (wn_none rfl) (os_call cb_32 rfl (fun w s => RAdd_calls _ _ _ _ _  s )) rfl rfl ?_; rintro _ _ ⟨rfl, rfl⟩; refine ⟨[_], rfl, ?_⟩
        refine rg_nil1 ?_
        refine px_blockN ?_
        refine px_then ?_
        refine cd_region ?_   -- 8
        refine ol_q (wn_none rfl) (op_add rfl rfl (by omega) (by omega)) rfl ?_
        refine ol_q (wn_none rfl) (op_move (v := .int _ _) rfl) rfl ?_
        refine ol_nil ?_
        have e1 := TreeS.adds_succ (TreeS.new (nameR 0) 0 256) xs i (by omega)
        refine px_loop2 (i + 1) (by omega) (by (try dsimp only); omega) ⟨congrArg (Value.int .i64) (by simp), trivial⟩ ?_ (fun _ s => (by rw [e1]; exact (s.del 2)))
        repeat (first | exact kept_over | refine kept_upd rfl ?_ | refine kept_overS (by decide) ?_)
      · have hp1 := hb1
        (try simp only [decide_eq_true_eq, decide_eq_false_iff_not, Bool.not_eq_true', Bool.not_eq_false', ne_eq, Decidable.not_not] at hp1)
        refine cd_exit ?_
        refine px_thenE ?_
        refine px_thenE ?_
        refine px_blockE ?_
        refine px_then ?_
        refine cd_sr ?_   -- 9
        refine ol_q (wn_none rfl) (op_move (v := .pointer _) rfl) rfl ?_
        refine ol_q (wn_none rfl) (op_move (v := .pointer _) rfl) rfl ?_
        refine ol_q (wn_none rfl) (op_assign (v := .pointer _) rfl) rfl ?_
        refine ol_q (wn_none rfl) (op_assign (v := .pointer _) rfl) rfl ?_
        refine ol_nil_then ?_
        refine cd_ret ?_
        obtain rfl : i = xs.length := by omega
        rw [List.take_length]
        exact px_ret2 rfl (v1 := .pointer _) (v2 := .pointer _) rfl rfl (fun _ s => s) ⟨_, _, rfl, rfl⟩

set_option maxRecDepth 100000 in
set_option maxHeartbeats 1000000 in
theorem TreeBelow_calls {w0 w : World} {l : List HProp} (ao : Option Addr) (c : Nat) (xs : List TAdd) (a b : Int) (odd : Root) (hs : Sat w0 w (l)) (hr : Rds w0 l encTAdd ao xs) (hq : ∀ a ∈ xs, I64 a.root ∧ I64 a.parent ∧ I64 a.slot) :
    Calls Try.prog 6 #[.slice ao xs.length c, .int .i64 a, .int .i64 b, .agg (rootC odd).toArray] w (Ret w0 fun v l' => v = .bool true ∧ l' = l) := by
  refine calls_enter Try.func6 rfl rfl rfl hs ?_
  refine cd_sr ?_   -- 0
  refine ol_i (wn_none rfl) (os_boxa rfl) rfl ?_; rintro _ _ ⟨bx1, rfl, rfl⟩
  refine ol_q (wn_none rfl) (op_assign (v := .bool _) rfl) rfl ?_
  refine ol_nil_then ?_
  refine cd_seq ?_
  refine cd_sr ?_   -- 1
  refine ol_i (wn_none rfl) (os_call cb_15 rfl (fun w s => treeAlive_calls  s )) rfl ?_; rintro _ l ⟨rfl, rfl⟩
  refine ol_q (wn_none rfl) (op_not rfl) rfl ?_
  refine ol_nil_then ?_
  refine cd_cond_f rfl rfl ?_
  refine cd_skip ?_
  refine px_then ?_
  refine cd_seq ?_
  refine cd_sr ?_   -- 3
  refine ol_q (wn_none rfl) (op_move (v := .slice _ _ _) rfl) rfl ?_
  refine ol_q (wn_none rfl) (op_len_slice Try.underlying22 rfl) rfl ?_
  refine ol_q (wn_none rfl) (op_gt rfl rfl) rfl ?_
  refine ol_nil_then ?_
  refine cd_cond rfl (fun hb1 => ?_) (fun hb1 => ?_)
  · have hp1 := hb1
    (try simp only [decide_eq_true_eq, decide_eq_false_iff_not, Bool.not_eq_true', Bool.not_eq_false', ne_eq, Decidable.not_not] at hp1)
    refine cd_sr ?_   -- 4
    refine ol_q (wn_none rfl) (op_assign (v := .bool _) rfl) rfl ?_
    refine ol_nil_then ?_
    refine cd_ret ?_
    refine px_thenR ?_
    exact px_ret1 rfl (v := .bool _) rfl (fun _ s => (s.del 0)) ⟨congrArg Value.bool (by simp), rfl⟩
  · have hp1 := hb1
    (try simp only [decide_eq_true_eq, decide_eq_false_iff_not, Bool.not_eq_true', Bool.not_eq_false', ne_eq, Decidable.not_not] at hp1)
    refine cd_skip ?_
    refine px_then ?_
    refine cd_sr ?_   -- 5
    refine ol_q (wn_none rfl) (op_move (v := .slice _ _ _) rfl) rfl ?_
    refine ol_i (wn_none rfl) (os_call cb_16 rfl (fun w s => treeMade_calls _ _ _  s (hr.cons _) (by first | omega | (simp; omega)))) rfl ?_; rintro _ _ ⟨pt2k, qt2k, rfl, rfl⟩
    refine ol_q (wn_none rfl) (op_move (v := .tuple _) rfl) rfl ?_
    refine ol_q (wn_none rfl) (op_extract (v := .pointer _) rfl rfl) rfl ?_
    refine ol_q (wn_none rfl) (op_extract (v := .pointer _) rfl rfl) rfl ?_
    refine ol_q (wn_none rfl) (op_assign (v := .pointer _) rfl) rfl ?_
    refine ol_q (wn_none rfl) (op_assign (v := .pointer _) rfl) rfl ?_
    refine ol_nil_then ?_
    have hwf : ((TreeS.new (nameR 0) 0 256).adds xs).WF := (TreeS.WF.new (by decide) (by decide) (by decide) (by decide)).adds xs
    have hroot : ∃ ys, ((TreeS.new (nameR 0) 0 256).adds xs).nodes = ⟨nameR 0, 0, -1⟩ :: ys := (TreeS.adds_more _ _).2
    generalize hTt : (TreeS.new (nameR 0) 0 256).adds xs = t at *
    have hm2 := hwf.m2; have hle := hwf.le
    refine cd_sr ?_   -- 6
    refine ol_q (wn_none rfl) (op_move (v := .int _ _) rfl) rfl ?_
    refine ol_i (wn_none rfl) (os_call cb_20 rfl (fun w s => Name_calls _  s )) rfl ?_; rintro _ l ⟨rfl, rfl⟩
    refine ol_q (wn_none rfl) (op_move (v := .int _ _) rfl) rfl ?_
    refine ol_i (wn_none rfl) (os_call cb_20 rfl (fun w s => Name_calls _  s )) rfl ?_; rintro _ l ⟨rfl, rfl⟩
    refine ol_i (wn_none rfl) (os_alloc (cs := (rootC Root.zero).toArray) zB_30 (by kernel_rfl)) rfl ?_; rintro _ _ ⟨bx2, rfl, rfl⟩
    refine ol_i (wn_none rfl) (os_alloc (cs := (rootC Root.zero).toArray) zB_30 (by kernel_rfl)) rfl ?_; rintro _ _ ⟨bx3, rfl, rfl⟩
    refine ol_pull1 ?_
    refine ol_iN (wn_none rfl) (os_storera _ ag_30 rfl rfl (Free.zero _)) ?_; rintro _ _ ⟨rfl, rfl⟩
    refine ol_pull1 ?_
    refine ol_iN (wn_none rfl) (os_storera _ ag_30 rfl rfl (Free.zero _)) ?_; rintro _ _ ⟨rfl, rfl⟩
    refine ol_nil_then ?_
    refine cd_pull2 ?_
    refine cd_pull3 ?_
    refine cd_seq ?_   -- 7
    refine cd_drawe (M := [_, _]) mx [3, 7, 13, 17, 24, 28, 34, 37, 38, 43, 46, 47] ?_
    -- 0
    refine et_quiet 0 (by kernel_rfl) rfl (by kernel_rfl) (wn_none rfl) (op_move (v := .pointer _) rfl) rfl ?_
    -- 1
    refine et_quiet 1 (by kernel_rfl) rfl (by kernel_rfl) (wn_none rfl) (op_lda (L := rootC _) 1 ag_30 rfl rfl (rootC_take' _) (by simp [rootC_len])) rfl ?_
    -- 2
    refine et_quiet 2 (by kernel_rfl) rfl (by kernel_rfl) (wn_none rfl) (op_lda (L := rootC _) 0 ag_30 rfl rfl (rootC_take' _) (by simp [rootC_len])) rfl ?_
    -- 4
    refine et_quiet 4 (by kernel_rfl) rfl (by kernel_rfl) (wn_none rfl) (op_move (v := .pointer _) rfl) rfl ?_
    -- 5
    refine et_quiet 5 (by kernel_rfl) rfl (by kernel_rfl) (wn_none rfl) (op_lda (L := rootC _) 1 ag_30 rfl rfl (rootC_take' _) (by simp [rootC_len])) rfl ?_
    -- 6
    refine et_quiet 6 (by kernel_rfl) rfl (by kernel_rfl) (wn_none rfl) (op_lda (L := rootC _) 0 ag_30 rfl rfl (rootC_take' _) (by simp [rootC_len])) rfl ?_
    refine et_1 (i := 3) (by kernel_rfl) ?_
    refine ei_i rfl rfl (wn_none rfl) (os_call cb_19 rfl (fun w s => Below_calls _ _ _ _  s )) rfl ?_; rintro _ _ ⟨rfl, rfl⟩; refine ⟨[_, _], rfl, ?_⟩
    refine et_1 (i := 7) (by kernel_rfl) ?_
    refine ei_i rfl rfl (wn_none rfl) (os_pull1 (os_call cb_24 rfl (fun w s => RBelow_calls _ _ _ _  s ))) rfl ?_; rintro _ _ ⟨rfl, rfl⟩; refine ⟨[_, _], rfl, ?_⟩
    -- 8
    refine et_quiet 8 (by kernel_rfl) rfl (by kernel_rfl) (wn_none rfl) (op_beql Try.underlying4 rfl rfl) rfl ?_
    -- 9
    refine et_quiet 9 (by kernel_rfl) rfl (by kernel_rfl) (wn_none rfl) (op_move (v := .bool _) rfl) rfl ?_
    refine et_split 36 rfl (fun hb2 => ?_) (fun hb2 => ?_)
    · have hp2 := hb2
      (try simp only [decide_eq_true_eq, decide_eq_false_iff_not, Bool.not_eq_true', Bool.not_eq_false', ne_eq, Decidable.not_not] at hp2)
      -- 10
      refine et_quiet 10 (by kernel_rfl) rfl (by kernel_rfl) (wn_some rfl rfl rfl hb2 rfl) (op_move (v := .pointer _) rfl) rfl ?_
      -- 11
      refine et_quiet 11 (by kernel_rfl) rfl (by kernel_rfl) (wn_some rfl rfl rfl hb2 rfl) (op_lda (L := rootC _) 1 ag_30 rfl rfl (rootC_take' _) (by simp [rootC_len])) rfl ?_
      -- 12
      refine et_quiet 12 (by kernel_rfl) rfl (by kernel_rfl) (wn_some rfl rfl rfl hb2 rfl) (op_lda (L := rootC _) 2 ag_30 rfl rfl (rootC_take' _) (by simp [rootC_len])) rfl ?_
      -- 14
      refine et_quiet 14 (by kernel_rfl) rfl (by kernel_rfl) (wn_some rfl rfl rfl hb2 rfl) (op_move (v := .pointer _) rfl) rfl ?_
      -- 15
      refine et_quiet 15 (by kernel_rfl) rfl (by kernel_rfl) (wn_some rfl rfl rfl hb2 rfl) (op_lda (L := rootC _) 1 ag_30 rfl rfl (rootC_take' _) (by simp [rootC_len])) rfl ?_
      -- 16
      refine et_quiet 16 (by kernel_rfl) rfl (by kernel_rfl) (wn_some rfl rfl rfl hb2 rfl) (op_lda (L := rootC _) 2 ag_30 rfl rfl (rootC_take' _) (by simp [rootC_len])) rfl ?_
      refine et_1 (i := 13) (by kernel_rfl) ?_
      refine ei_i rfl rfl (wn_some rfl rfl rfl hb2 rfl) (os_pull1 (os_call cb_19 rfl (fun w s => Below_calls _ _ _ _  s ))) rfl ?_; rintro _ _ ⟨rfl, rfl⟩; refine ⟨[_, _], rfl, ?_⟩
      refine et_1 (i := 17) (by kernel_rfl) ?_
      refine ei_i rfl rfl (wn_some rfl rfl rfl hb2 rfl) (os_pull1 (os_call cb_24 rfl (fun w s => RBelow_calls _ _ _ _  s ))) rfl ?_; rintro _ _ ⟨rfl, rfl⟩; refine ⟨[_, _], rfl, ?_⟩
      -- 18
      refine et_quiet 18 (by kernel_rfl) rfl (by kernel_rfl) (wn_some rfl rfl rfl hb2 rfl) (op_beql Try.underlying4 rfl rfl) rfl ?_
      -- 19
      refine et_quiet 19 (by kernel_rfl) rfl (by kernel_rfl) (wn_none rfl) (op_pick_t (v := .bool _) rfl hb2 rfl) rfl ?_
      -- 20
      refine et_quiet 20 (by kernel_rfl) rfl (by kernel_rfl) (wn_none rfl) (op_move (v := .bool _) rfl) rfl ?_
      refine et_split 47 rfl (fun hb3 => ?_) (fun hb3 => ?_)
      · have hp3 := hb3
        (try simp only [decide_eq_true_eq, decide_eq_false_iff_not, Bool.not_eq_true', Bool.not_eq_false', ne_eq, Decidable.not_not] at hp3)
        -- 21
        refine et_quiet 21 (by kernel_rfl) rfl (by kernel_rfl) (wn_some rfl rfl rfl hb3 rfl) (op_move (v := .pointer _) rfl) rfl ?_
        -- 22
        refine et_quiet 22 (by kernel_rfl) rfl (by kernel_rfl) (wn_some rfl rfl rfl hb3 rfl) (op_lda (L := rootC _) 2 ag_30 rfl rfl (rootC_take' _) (by simp [rootC_len])) rfl ?_
        -- 23
        refine et_quiet 23 (by kernel_rfl) rfl (by kernel_rfl) (wn_some rfl rfl rfl hb3 rfl) (op_lda (L := rootC _) 1 ag_30 rfl rfl (rootC_take' _) (by simp [rootC_len])) rfl ?_
        -- 25
        refine et_quiet 25 (by kernel_rfl) rfl (by kernel_rfl) (wn_some rfl rfl rfl hb3 rfl) (op_move (v := .pointer _) rfl) rfl ?_
        -- 26
        refine et_quiet 26 (by kernel_rfl) rfl (by kernel_rfl) (wn_some rfl rfl rfl hb3 rfl) (op_lda (L := rootC _) 2 ag_30 rfl rfl (rootC_take' _) (by simp [rootC_len])) rfl ?_
        -- 27
        refine et_quiet 27 (by kernel_rfl) rfl (by kernel_rfl) (wn_some rfl rfl rfl hb3 rfl) (op_lda (L := rootC _) 1 ag_30 rfl rfl (rootC_take' _) (by simp [rootC_len])) rfl ?_
        refine et_1 (i := 24) (by kernel_rfl) ?_
        refine ei_i rfl rfl (wn_some rfl rfl rfl hb3 rfl) (os_pull1 (os_call cb_19 rfl (fun w s => Below_calls _ _ _ _  s ))) rfl ?_; rintro _ _ ⟨rfl, rfl⟩; refine ⟨[_, _], rfl, ?_⟩
        refine et_1 (i := 28) (by kernel_rfl) ?_
        refine ei_i rfl rfl (wn_some rfl rfl rfl hb3 rfl) (os_pull1 (os_call cb_24 rfl (fun w s => RBelow_calls _ _ _ _  s ))) rfl ?_; rintro _ _ ⟨rfl, rfl⟩; refine ⟨[_, _], rfl, ?_⟩
        -- 29
        refine et_quiet 29 (by kernel_rfl) rfl (by kernel_rfl) (wn_some rfl rfl rfl hb3 rfl) (op_beql Try.underlying4 rfl rfl) rfl ?_
        -- 30
        refine et_quiet 30 (by kernel_rfl) rfl (by kernel_rfl) (wn_none rfl) (op_pick_t (v := .bool _) rfl hb3 rfl) rfl ?_
        -- 31
        refine et_quiet 31 (by kernel_rfl) rfl (by kernel_rfl) (wn_none rfl) (op_move (v := .bool _) rfl) rfl ?_
        refine et_split 58 rfl (fun hb4 => ?_) (fun hb4 => ?_)
        · have hp4 := hb4
          (try simp only [decide_eq_true_eq, decide_eq_false_iff_not, Bool.not_eq_true', Bool.not_eq_false', ne_eq, Decidable.not_not] at hp4)
          -- 32
          refine et_quiet 32 (by kernel_rfl) rfl (by kernel_rfl) (wn_some rfl rfl rfl hb4 rfl) (op_move (v := .pointer _) rfl) rfl ?_
          -- 33
          refine et_quiet 33 (by kernel_rfl) rfl (by kernel_rfl) (wn_some rfl rfl rfl hb4 rfl) (op_lda (L := rootC _) 1 ag_30 rfl rfl (rootC_take' _) (by simp [rootC_len])) rfl ?_
          -- 35
          refine et_quiet 35 (by kernel_rfl) rfl (by kernel_rfl) (wn_some rfl rfl rfl hb4 rfl) (op_move (v := .pointer _) rfl) rfl ?_
          -- 36
          refine et_quiet 36 (by kernel_rfl) rfl (by kernel_rfl) (wn_some rfl rfl rfl hb4 rfl) (op_lda (L := rootC _) 1 ag_30 rfl rfl (rootC_take' _) (by simp [rootC_len])) rfl ?_
          refine et_1 (i := 34) (by kernel_rfl) ?_
          refine ei_i rfl rfl (wn_some rfl rfl rfl hb4 rfl) (os_pull1 (os_call cb_26 rfl (fun w s => Kids_calls _ _ _  s ))) rfl ?_; rintro _ _ ⟨ao11k, ac11k, rfl, rfl⟩; refine ⟨[_, _, _], rfl, ?_⟩
          refine et_1 (i := 37) (by kernel_rfl) ?_
          refine ei_i rfl rfl (wn_some rfl rfl rfl hb4 rfl) (os_pull2 (os_call cb_27 rfl (fun w s => RKids_calls _ _ _  s ))) rfl ?_; rintro _ _ ⟨ao12k, ac12k, rfl, rfl⟩; refine ⟨[_, _, _, _], rfl, ?_⟩
          refine et_1 (i := 38) (by kernel_rfl) ?_
          refine ei_i rfl rfl (wn_some rfl rfl rfl hb4 rfl) (os_call cb_25 rfl (fun w s => Same_calls _ _ _ _ _ _  s (rds_row 2 rfl rfl) (rds_row 0 rfl rfl) (by have := kids_len t (nameR a); omega))) rfl ?_; rintro _ l ⟨rfl, rfl⟩; refine ⟨[_, _, _, _], rfl, ?_⟩
          -- 39
          refine et_quiet 39 (by kernel_rfl) rfl (by kernel_rfl) (wn_none rfl) (op_pick_t (v := .bool _) rfl hb4 rfl) rfl ?_
          -- 40
          refine et_quiet 40 (by kernel_rfl) rfl (by kernel_rfl) (wn_none rfl) (op_move (v := .bool _) rfl) rfl ?_
          refine et_split 67 rfl (fun hb5 => ?_) (fun hb5 => ?_)
          · have hp5 := hb5
            (try simp only [decide_eq_true_eq, decide_eq_false_iff_not, Bool.not_eq_true', Bool.not_eq_false', ne_eq, Decidable.not_not] at hp5)
            -- 41
            refine et_quiet 41 (by kernel_rfl) rfl (by kernel_rfl) (wn_some rfl rfl rfl hb5 rfl) (op_move (v := .pointer _) rfl) rfl ?_
            -- 42
            refine et_quiet 42 (by kernel_rfl) rfl (by kernel_rfl) (wn_some rfl rfl rfl hb5 rfl) (op_lda (L := rootC _) 2 ag_30 rfl rfl (rootC_take' _) (by simp [rootC_len])) rfl ?_
            -- 44
            refine et_quiet 44 (by kernel_rfl) rfl (by kernel_rfl) (wn_some rfl rfl rfl hb5 rfl) (op_move (v := .pointer _) rfl) rfl ?_
            -- 45
            refine et_quiet 45 (by kernel_rfl) rfl (by kernel_rfl) (wn_some rfl rfl rfl hb5 rfl) (op_lda (L := rootC _) 2 ag_30 rfl rfl (rootC_take' _) (by simp [rootC_len])) rfl ?_
            refine et_1 (i := 43) (by kernel_rfl) ?_
            refine ei_i rfl rfl (wn_some rfl rfl rfl hb5 rfl) (os_pull3 (os_call cb_26 rfl (fun w s => Kids_calls _ _ _  s ))) rfl ?_; rintro _ _ ⟨ao14k, ac14k, rfl, rfl⟩; refine ⟨[_, _, _, _, _], rfl, ?_⟩
            refine et_1 (i := 46) (by kernel_rfl) ?_
            refine ei_i rfl rfl (wn_some rfl rfl rfl hb5 rfl) (os_pull3 (os_call cb_27 rfl (fun w s => RKids_calls _ _ _  s ))) rfl ?_; rintro _ _ ⟨ao15k, ac15k, rfl, rfl⟩; refine ⟨[_, _, _, _, _, _], rfl, ?_⟩
            refine et_1 (i := 47) (by kernel_rfl) ?_
            refine ei_i rfl rfl (wn_some rfl rfl rfl hb5 rfl) (os_call cb_25 rfl (fun w s => Same_calls _ _ _ _ _ _  s (rds_row 2 rfl rfl) (rds_row 0 rfl rfl) (by have := kids_len t odd; omega))) rfl ?_; rintro _ l ⟨rfl, rfl⟩; refine ⟨[_, _, _, _, _, _], rfl, ?_⟩
            -- 48
            refine et_quiet 48 (by kernel_rfl) rfl (by kernel_rfl) (wn_none rfl) (op_pick_t (v := .bool _) rfl hb5 rfl) rfl ?_
            -- 49
            refine et_quiet 49 (by kernel_rfl) rfl (by kernel_rfl) (wn_none rfl) (op_assign (v := .bool _) rfl) rfl ?_
            refine et_nil_then (by kernel_rfl) ?_
            refine cd_ret ?_
            exact px_ret1 rfl (v := .bool _) rfl (fun _ s => (((((((((s.del 8).del 7).del 6).del 5).del 4).del 3).del 2).del 1).del 0)) ⟨congrArg Value.bool (by simp), rfl⟩
          · have hp5 := hb5
            (try simp only [decide_eq_true_eq, decide_eq_false_iff_not, Bool.not_eq_true', Bool.not_eq_false', ne_eq, Decidable.not_not] at hp5)
            exact absurd hb5 (by simp)
        · have hp4 := hb4
          (try simp only [decide_eq_true_eq, decide_eq_false_iff_not, Bool.not_eq_true', Bool.not_eq_false', ne_eq, Decidable.not_not] at hp4)
          exact absurd hb4 (by simp)
      · have hp3 := hb3
        (try simp only [decide_eq_true_eq, decide_eq_false_iff_not, Bool.not_eq_true', Bool.not_eq_false', ne_eq, Decidable.not_not] at hp3)
        exact absurd hb3 (by simp)
    · have hp2 := hb2
      (try simp only [decide_eq_true_eq, decide_eq_false_iff_not, Bool.not_eq_true', Bool.not_eq_false', ne_eq, Decidable.not_not] at hp2)
      exact absurd hb2 (by simp)

set_option maxRecDepth 100000 in
set_option maxHeartbeats 1000000 in
theorem TreeOrder_calls {w0 w : World} {l : List HProp} (ao : Option Addr) (c : Nat) (xs : List TAdd) (x y z : Int) (hs : Sat w0 w (l)) (hr : Rds w0 l encTAdd ao xs) (hq : ∀ a ∈ xs, I64 a.root ∧ I64 a.parent ∧ I64 a.slot) :
    Calls Try.prog 3 #[.slice ao xs.length c, .int .i64 x, .int .i64 y, .int .i64 z] w (Ret w0 fun v l' => v = .bool true ∧ l' = l) := by
  refine calls_enter Try.func3 rfl rfl rfl hs ?_
  refine cd_sr ?_   -- 0
  refine ol_q (wn_none rfl) (op_assign (v := .bool _) rfl) rfl ?_
  refine ol_nil_then ?_
  refine cd_seq ?_
  refine cd_sr ?_   -- 1
  refine ol_i (wn_none rfl) (os_call cb_15 rfl (fun w s => treeAlive_calls  s )) rfl ?_; rintro _ l ⟨rfl, rfl⟩
  refine ol_q (wn_none rfl) (op_not rfl) rfl ?_
  refine ol_nil_then ?_
  refine cd_cond_f rfl rfl ?_
  refine cd_skip ?_
  refine px_then ?_
  refine cd_seq ?_
  refine cd_sr ?_   -- 3
  refine ol_q (wn_none rfl) (op_move (v := .slice _ _ _) rfl) rfl ?_
  refine ol_q (wn_none rfl) (op_len_slice Try.underlying22 rfl) rfl ?_
  refine ol_q (wn_none rfl) (op_gt rfl rfl) rfl ?_
  refine ol_nil_then ?_
  refine cd_cond rfl (fun hb1 => ?_) (fun hb1 => ?_)
  · have hp1 := hb1
    (try simp only [decide_eq_true_eq, decide_eq_false_iff_not, Bool.not_eq_true', Bool.not_eq_false', ne_eq, Decidable.not_not] at hp1)
    refine cd_sr ?_   -- 4
    refine ol_q (wn_none rfl) (op_assign (v := .bool _) rfl) rfl ?_
    refine ol_nil_then ?_
    refine cd_ret ?_
    refine px_thenR ?_
    exact px_ret1 rfl (v := .bool _) rfl (fun _ s => s) ⟨congrArg Value.bool (by first | rfl | simp | (have := below_trans hwf (x := nameR x) (y := nameR y) (z := nameR z) (by simpa using ‹(!t.below (nameR x) (nameR y)) = false›) (by simpa using ‹(!t.below (nameR y) (nameR z)) = false›); rw [this])), rfl⟩
  · have hp1 := hb1
    (try simp only [decide_eq_true_eq, decide_eq_false_iff_not, Bool.not_eq_true', Bool.not_eq_false', ne_eq, Decidable.not_not] at hp1)
    refine cd_skip ?_
    refine px_then ?_
    refine cd_sr ?_   -- 5
    refine ol_q (wn_none rfl) (op_move (v := .slice _ _ _) rfl) rfl ?_
    refine ol_i (wn_none rfl) (os_call cb_16 rfl (fun w s => treeMade_calls _ _ _  s hr (by first | omega | (simp; omega)))) rfl ?_; rintro _ _ ⟨pt2k, qt2k, rfl, rfl⟩
    refine ol_q (wn_none rfl) (op_move (v := .tuple _) rfl) rfl ?_
    refine ol_q (wn_none rfl) (op_extract (v := .pointer _) rfl rfl) rfl ?_
    refine ol_q (wn_none rfl) (op_extract (v := .pointer _) rfl rfl) rfl ?_
    refine ol_q (wn_none rfl) (op_assign (v := .pointer _) rfl) rfl ?_
    refine ol_q (wn_none rfl) (op_assign (v := .pointer _) rfl) rfl ?_
    refine ol_nil_then ?_
    refine cd_seq ?_
    have hwf : ((TreeS.new (nameR 0) 0 256).adds xs).WF := (TreeS.WF.new (by decide) (by decide) (by decide) (by decide)).adds xs
    have hroot : ∃ ys, ((TreeS.new (nameR 0) 0 256).adds xs).nodes = ⟨nameR 0, 0, -1⟩ :: ys := (TreeS.adds_more _ _).2
    generalize hTt : (TreeS.new (nameR 0) 0 256).adds xs = t at *
    have hm2 := hwf.m2; have hle := hwf.le; have hne := hwf.ne
    obtain ⟨ys, hys⟩ := hroot
    have hr0 : (t.nodes[0]'hne).root = nameR 0 := by simp only [hys]; rfl
    refine cd_sr ?_   -- 6
    refine ol_q (wn_none rfl) (op_assign (v := .int _ _) rfl) rfl ?_
    refine ol_nil_then ?_
    refine cd_block ?_
    refine cd_loop2 (α := Nat) [(8, 8), (11, 15), (29, 70)] (fun x => [(11, .int .i64 (x : Int))]) (fun _ => _) (fun x => 1 ≤ x ∧ x ≤ t.nodes.length) (fun x => t.nodes.length - x) 1 ⟨Nat.le_refl _, hne⟩ ⟨rfl, trivial⟩ (fun _ s => s) ?_
    rintro i ⟨hi1, hi2⟩ f; (try dsimp only at hi1 hi2 ⊢)
    refine cd_seq ?_
    refine cd_sr ?_   -- 7
    refine ol_q (wn_none rfl) (op_move (v := .int _ _) rfl) rfl ?_
    refine ol_q (wn_none rfl) (op_move (v := .pointer _) rfl) rfl ?_
    refine ol_pull1 ?_
    refine ol_i (wn_none rfl) (os_call cb_17 rfl (fun w s => Len_calls _ _  s )) rfl ?_; rintro _ _ ⟨rfl, rfl⟩
    refine ol_q (wn_none rfl) (op_lt rfl rfl) rfl ?_
    refine ol_nil_then ?_
    refine cd_cond rfl (fun hb2 => ?_) (fun hb2 => ?_)
    · have hp2 := hb2
      (try simp only [decide_eq_true_eq, decide_eq_false_iff_not, Bool.not_eq_true', Bool.not_eq_false', ne_eq, Decidable.not_not] at hp2)
      have hil : i < t.nodes.length := by omega
      have hnd := TreeS.node_nat hil
      obtain ⟨m0, hm0, hpl, hms⟩ := order_step hwf hil (by omega)
      have hbf := below_first hwf hil hne; rw [hr0] at hbf
      have hpar := hwf.par_rg (List.getElem?_eq_getElem hil)
      refine cd_skip ?_
      refine px_then ?_
      refine cd_seq ?_
      refine cd_block ?_
      refine cd_sr ?_   -- 9
      refine ol_q (wn_none rfl) (op_move (v := .pointer _) rfl) rfl ?_
      refine ol_q (wn_none rfl) (op_move (v := .int _ _) rfl) rfl ?_
      refine ol_i (wn_none rfl) (os_call cb_18 rfl (fun w s => Node_calls _ _ _  s )) rfl ?_; rintro _ _ ⟨rfl, rfl⟩; rw [hnd]; simp only [Option.getD_some, Option.isSome_some]
      refine ol_q (wn_none rfl) (op_move (v := .tuple _) rfl) rfl ?_
      refine ol_q (wn_none rfl) (op_extract (v := .agg _) rfl rfl) rfl ?_
      refine ol_q (wn_none rfl) (op_extract (v := .bool _) rfl rfl) rfl ?_
      refine ol_i (wn_none rfl) (os_alloc (cs := (nodeC Node.zero).toArray) zB_32 (by kernel_rfl)) rfl ?_; rintro _ _ ⟨bx1, rfl, rfl⟩
      refine ol_iN (wn_none rfl) (os_storew (nodeC _) ag_32 rfl rfl (nodeC_len _) (nodeC_one _) (by simp [nodeC_len]) (Free.zero _)) ?_; rintro _ _ ⟨rfl, rfl⟩
      refine ol_q (wn_none rfl) (op_assign (v := .bool _) rfl) rfl ?_
      refine ol_nil_then ?_
      refine cd_sr ?_   -- 10
      refine ol_q (wn_none rfl) (op_move (v := .pointer _) rfl) rfl ?_
      refine ol_q (wn_none rfl) (op_field fld_32_2 rfl) rfl ?_
      refine ol_q (wn_none rfl) (op_ld 0 sc_3 rfl rfl (nodeC_a33 _)) rfl ?_
      refine ol_pull1 ?_
      refine ol_i (wn_none rfl) (os_call cb_18 rfl (fun w s => Node_calls _ _ _  s )) rfl ?_; rintro _ _ ⟨rfl, rfl⟩; rw [hm0]; simp only [Option.getD_some, Option.isSome_some]
      refine ol_q (wn_none rfl) (op_move (v := .tuple _) rfl) rfl ?_
      refine ol_q (wn_none rfl) (op_extract (v := .agg _) rfl rfl) rfl ?_
      refine ol_q (wn_none rfl) (op_extract (v := .bool _) rfl rfl) rfl ?_
      refine ol_i (wn_none rfl) (os_alloc (cs := (nodeC Node.zero).toArray) zB_32 (by kernel_rfl)) rfl ?_; rintro _ _ ⟨bx2, rfl, rfl⟩
      refine ol_iN (wn_none rfl) (os_storew (nodeC _) ag_32 rfl rfl (nodeC_len _) (nodeC_one _) (by simp [nodeC_len]) (Free.zero _)) ?_; rintro _ _ ⟨rfl, rfl⟩
      refine ol_q (wn_none rfl) (op_assign (v := .bool _) rfl) rfl ?_
      refine ol_nil_then ?_
      refine cd_pull1 ?_
      refine cd_seq ?_   -- 11
      refine cd_draw (M := [_]) mx [17, 20] (by kernel_rfl) ?_
      refine rg_q (wn_none rfl) (op_move (v := .bool _) rfl) rfl rfl ?_
      refine rg_q (wn_none rfl) (op_not rfl) rfl rfl ?_
      refine rg_q (wn_none rfl) (op_move (v := .bool _) rfl) rfl rfl ?_
      refine rg_split 50 rfl (fun hb3 => ?_) (fun hb3 => ?_)
      · have hp3 := hb3
        (try simp only [decide_eq_true_eq, decide_eq_false_iff_not, Bool.not_eq_true', Bool.not_eq_false', ne_eq, Decidable.not_not] at hp3)
        exact absurd hb3 (by simp)
      · have hp3 := hb3
        (try simp only [decide_eq_true_eq, decide_eq_false_iff_not, Bool.not_eq_true', Bool.not_eq_false', ne_eq, Decidable.not_not] at hp3)
        refine rg_q (wn_some rfl rfl rfl hb3 rfl) (op_field fld_32_2 rfl) rfl rfl ?_
        refine rg_q (wn_some rfl rfl rfl hb3 rfl) (op_ld 1 sc_3 rfl rfl (nodeC_a33 _)) rfl rfl ?_
        refine rg_q (wn_some rfl rfl rfl hb3 rfl) (op_move (v := .int _ _) rfl) rfl rfl ?_
        refine rg_q (wn_some rfl rfl rfl hb3 rfl) (op_ge rfl rfl) rfl rfl ?_
        refine rg_q (wn_none rfl) (op_pick_f (v := .bool _) rfl hb3 rfl) rfl rfl ?_
        refine rg_q (wn_none rfl) (op_move (v := .bool _) rfl) rfl rfl ?_
        refine rg_split 56 rfl (fun hb4 => ?_) (fun hb4 => ?_)
        · have hp4 := hb4
          (try simp only [decide_eq_true_eq, decide_eq_false_iff_not, Bool.not_eq_true', Bool.not_eq_false', ne_eq, Decidable.not_not] at hp4)
          exact absurd hb4 (by simp; omega)
        · have hp4 := hb4
          (try simp only [decide_eq_true_eq, decide_eq_false_iff_not, Bool.not_eq_true', Bool.not_eq_false', ne_eq, Decidable.not_not] at hp4)
          refine rg_q (wn_some rfl rfl rfl hb4 rfl) (op_field fld_32_1 rfl) rfl rfl ?_
          refine rg_q (wn_some rfl rfl rfl hb4 rfl) (op_ld 0 sc_3 rfl rfl (nodeC_a32 _)) rfl rfl ?_
          refine rg_q (wn_some rfl rfl rfl hb4 rfl) (op_field fld_32_1 rfl) rfl rfl ?_
          refine rg_q (wn_some rfl rfl rfl hb4 rfl) (op_ld 1 sc_3 rfl rfl (nodeC_a32 _)) rfl rfl ?_
          refine rg_q (wn_some rfl rfl rfl hb4 rfl) (op_ge rfl rfl) rfl rfl ?_
          refine rg_q (wn_none rfl) (op_pick_f (v := .bool _) rfl hb4 rfl) rfl rfl ?_
          refine rg_q (wn_none rfl) (op_move (v := .bool _) rfl) rfl rfl ?_
          refine rg_split 63 rfl (fun hb5 => ?_) (fun hb5 => ?_)
          · have hp5 := hb5
            (try simp only [decide_eq_true_eq, decide_eq_false_iff_not, Bool.not_eq_true', Bool.not_eq_false', ne_eq, Decidable.not_not] at hp5)
            exact absurd hb5 (by simp; omega)
          · have hp5 := hb5
            (try simp only [decide_eq_true_eq, decide_eq_false_iff_not, Bool.not_eq_true', Bool.not_eq_false', ne_eq, Decidable.not_not] at hp5)
            refine rg_q (wn_some rfl rfl rfl hb5 rfl) (op_move (v := .pointer _) rfl) rfl rfl ?_
            refine rg_i (wn_some rfl rfl rfl hb5 rfl) (os_call cb_20 rfl (fun w s => Name_calls (n := 0)  s )) rfl rfl ?_; rintro _ l ⟨rfl, rfl⟩; refine ⟨[_], rfl, ?_⟩
            refine rg_q (wn_some rfl rfl rfl hb5 rfl) (op_field fld_32_0 rfl) rfl rfl ?_
            refine rg_q (wn_some rfl rfl rfl hb5 rfl) (op_lda (L := rootC _) 1 ag_30 rfl rfl (nodeC_af0 _) (by simp [nodeC_len])) rfl rfl ?_
            refine rg_i (wn_some rfl rfl rfl hb5 rfl) (os_call cb_19 rfl (fun w s => Below_calls _ _ _ _  s )) rfl rfl ?_; rintro _ _ ⟨rfl, rfl⟩; refine ⟨[_], rfl, ?_⟩
            refine rg_q (wn_some rfl rfl rfl hb5 rfl) (op_not rfl) rfl rfl ?_
            refine rg_q (wn_none rfl) (op_pick_f (v := .bool _) rfl hb5 rfl) rfl rfl ?_
            refine rg_nil_then1 ?_
            refine cd_cond rfl (fun hb6 => ?_) (fun hb6 => ?_)
            · have hp6 := hb6
              (try simp only [decide_eq_true_eq, decide_eq_false_iff_not, Bool.not_eq_true', Bool.not_eq_false', ne_eq, Decidable.not_not] at hp6)
              exact absurd hb6 (by rw [hbf]; simp)
            · have hp6 := hb6
              (try simp only [decide_eq_true_eq, decide_eq_false_iff_not, Bool.not_eq_true', Bool.not_eq_false', ne_eq, Decidable.not_not] at hp6)
              refine cd_skip ?_
              refine px_blockN ?_
              refine px_then ?_
              refine cd_region ?_   -- 8
              refine ol_q (wn_none rfl) (op_move (v := .int _ _) rfl) rfl ?_
              refine ol_q (wn_none rfl) (op_add rfl rfl (by omega) (by omega)) rfl ?_
              refine ol_q (wn_none rfl) (op_assign (v := .int _ _) rfl) rfl ?_
              refine ol_nil ?_
              refine px_loop2 (i + 1) ⟨by omega, by omega⟩ (by (try dsimp only); omega) ⟨congrArg (Value.int .i64) (by simp), trivial⟩ ?_ (fun _ s => (((s.del 2).del 1).pull 1))
              repeat (first | exact kept_over | refine kept_upd rfl ?_ | refine kept_overS (by decide) ?_)
    · have hp2 := hb2
      (try simp only [decide_eq_true_eq, decide_eq_false_iff_not, Bool.not_eq_true', Bool.not_eq_false', ne_eq, Decidable.not_not] at hp2)
      refine cd_exit ?_
      refine px_thenE ?_
      refine px_thenE ?_
      refine px_blockE ?_
      refine px_then ?_
      refine cd_sr ?_   -- 13
      refine ol_q (wn_none rfl) (op_move (v := .int _ _) rfl) rfl ?_
      refine ol_i (wn_none rfl) (os_call cb_20 rfl (fun w s => Name_calls _  s )) rfl ?_; rintro _ l ⟨rfl, rfl⟩
      refine ol_q (wn_none rfl) (op_move (v := .int _ _) rfl) rfl ?_
      refine ol_i (wn_none rfl) (os_call cb_20 rfl (fun w s => Name_calls _  s )) rfl ?_; rintro _ l ⟨rfl, rfl⟩
      refine ol_q (wn_none rfl) (op_move (v := .int _ _) rfl) rfl ?_
      refine ol_i (wn_none rfl) (os_call cb_20 rfl (fun w s => Name_calls _  s )) rfl ?_; rintro _ l ⟨rfl, rfl⟩
      refine ol_i (wn_none rfl) (os_alloc (cs := (rootC Root.zero).toArray) zB_30 (by kernel_rfl)) rfl ?_; rintro _ _ ⟨bx3, rfl, rfl⟩
      refine ol_i (wn_none rfl) (os_alloc (cs := (rootC Root.zero).toArray) zB_30 (by kernel_rfl)) rfl ?_; rintro _ _ ⟨bx4, rfl, rfl⟩
      refine ol_i (wn_none rfl) (os_alloc (cs := (rootC Root.zero).toArray) zB_30 (by kernel_rfl)) rfl ?_; rintro _ _ ⟨bx5, rfl, rfl⟩
      refine ol_pull2 ?_
      refine ol_iN (wn_none rfl) (os_storera _ ag_30 rfl rfl (Free.zero _)) ?_; rintro _ _ ⟨rfl, rfl⟩
      refine ol_pull2 ?_
      refine ol_iN (wn_none rfl) (os_storera _ ag_30 rfl rfl (Free.zero _)) ?_; rintro _ _ ⟨rfl, rfl⟩
      refine ol_pull2 ?_
      refine ol_iN (wn_none rfl) (os_storera _ ag_30 rfl rfl (Free.zero _)) ?_; rintro _ _ ⟨rfl, rfl⟩
      refine ol_nil_then ?_
      refine cd_seq ?_
      refine cd_sr ?_   -- 14
      refine ol_q (wn_none rfl) (op_move (v := .pointer _) rfl) rfl ?_
      refine ol_q (wn_none rfl) (op_lda (L := rootC _) 2 ag_30 rfl rfl (rootC_take' _) (by simp [rootC_len])) rfl ?_
      refine ol_q (wn_none rfl) (op_lda (L := rootC _) 1 ag_30 rfl rfl (rootC_take' _) (by simp [rootC_len])) rfl ?_
      refine ol_pull3 ?_
      refine ol_i (wn_none rfl) (os_call cb_19 rfl (fun w s => Below_calls _ _ _ _  s )) rfl ?_; rintro _ _ ⟨rfl, rfl⟩
      refine ol_q (wn_none rfl) (op_move (v := .bool _) rfl) rfl ?_
      refine ol_split 81 rfl (fun hb7 => ?_) (fun hb7 => ?_)
      · have hp7 := hb7
        (try simp only [decide_eq_true_eq, decide_eq_false_iff_not, Bool.not_eq_true', Bool.not_eq_false', ne_eq, Decidable.not_not] at hp7)
        refine ol_q (wn_some rfl rfl rfl hb7 rfl) (op_move (v := .pointer _) rfl) rfl ?_
        refine ol_q (wn_some rfl rfl rfl hb7 rfl) (op_lda (L := rootC _) 2 ag_30 rfl rfl (rootC_take' _) (by simp [rootC_len])) rfl ?_
        refine ol_q (wn_some rfl rfl rfl hb7 rfl) (op_lda (L := rootC _) 3 ag_30 rfl rfl (rootC_take' _) (by simp [rootC_len])) rfl ?_
        refine ol_i (wn_some rfl rfl rfl hb7 rfl) (os_call cb_19 rfl (fun w s => Below_calls _ _ _ _  s )) rfl ?_; rintro _ _ ⟨rfl, rfl⟩
        refine ol_q (wn_none rfl) (op_pick_t (v := .bool _) rfl hb7 rfl) rfl ?_
        refine ol_q (wn_none rfl) (op_move (v := .bool _) rfl) rfl ?_
        refine ol_split 87 rfl (fun hb8 => ?_) (fun hb8 => ?_)
        · have hp8 := hb8
          (try simp only [decide_eq_true_eq, decide_eq_false_iff_not, Bool.not_eq_true', Bool.not_eq_false', ne_eq, Decidable.not_not] at hp8)
          refine ol_q (wn_some rfl rfl rfl hb8 rfl) (op_lda (L := rootC _) 3 ag_30 rfl rfl (rootC_take' _) (by simp [rootC_len])) rfl ?_
          refine ol_q (wn_some rfl rfl rfl hb8 rfl) (op_lda (L := rootC _) 2 ag_30 rfl rfl (rootC_take' _) (by simp [rootC_len])) rfl ?_
          refine ol_q (wn_some rfl rfl rfl hb8 rfl) (op_neroot _ _ rB_30 rfl rfl) rfl ?_
          refine ol_q (wn_none rfl) (op_pick_t (v := .bool _) rfl hb8 rfl) rfl ?_
          refine ol_nil_then ?_
          refine cd_cond rfl (fun hb9 => ?_) (fun hb9 => ?_)
          · have hp9 := hb9
            (try simp only [decide_eq_true_eq, decide_eq_false_iff_not, Bool.not_eq_true', Bool.not_eq_false', ne_eq, Decidable.not_not] at hp9)
            exact absurd hb9 (by have := below_anti hwf ‹t.below (nameR x) (nameR y) = true› ‹t.below (nameR y) (nameR x) = true›; simp [this])
          · have hp9 := hb9
            (try simp only [decide_eq_true_eq, decide_eq_false_iff_not, Bool.not_eq_true', Bool.not_eq_false', ne_eq, Decidable.not_not] at hp9)
            refine cd_skip ?_
            refine px_then ?_
            refine cd_sr ?_   -- 16
            refine ol_q (wn_none rfl) (op_move (v := .pointer _) rfl) rfl ?_
            refine ol_q (wn_none rfl) (op_lda (L := rootC _) 3 ag_30 rfl rfl (rootC_take' _) (by simp [rootC_len])) rfl ?_
            refine ol_q (wn_none rfl) (op_lda (L := rootC _) 2 ag_30 rfl rfl (rootC_take' _) (by simp [rootC_len])) rfl ?_
            refine ol_i (wn_none rfl) (os_call cb_19 rfl (fun w s => Below_calls _ _ _ _  s )) rfl ?_; rintro _ _ ⟨rfl, rfl⟩
            refine ol_q (wn_none rfl) (op_not rfl) rfl ?_
            refine ol_q (wn_none rfl) (op_move (v := .bool _) rfl) rfl ?_
            refine ol_split 97 rfl (fun hb10 => ?_) (fun hb10 => ?_)
            · have hp10 := hb10
              (try simp only [decide_eq_true_eq, decide_eq_false_iff_not, Bool.not_eq_true', Bool.not_eq_false', ne_eq, Decidable.not_not] at hp10)
              refine ol_skip (wn_some rfl rfl rfl hb10 rfl) rfl ?_
              refine ol_skip (wn_some rfl rfl rfl hb10 rfl) rfl ?_
              refine ol_skip (wn_some rfl rfl rfl hb10 rfl) rfl ?_
              refine ol_skip (wn_some rfl rfl rfl hb10 rfl) rfl ?_
              refine ol_skip (wn_some rfl rfl rfl hb10 rfl) rfl ?_
              refine ol_q (wn_none rfl) (op_pick_t (v := .bool _) rfl hb10 rfl) rfl ?_
              refine ol_q (wn_none rfl) (op_move (v := .bool _) rfl) rfl ?_
              refine ol_skip (wn_some rfl rfl rfl rfl rfl) rfl ?_
              refine ol_skip (wn_some rfl rfl rfl rfl rfl) rfl ?_
              refine ol_skip (wn_some rfl rfl rfl rfl rfl) rfl ?_
              refine ol_skip (wn_some rfl rfl rfl rfl rfl) rfl ?_
              refine ol_q (wn_none rfl) (op_pick_t (v := .bool _) rfl rfl rfl) rfl ?_
              refine ol_q (wn_none rfl) (op_assign (v := .bool _) rfl) rfl ?_
              refine ol_nil_then ?_
              refine cd_ret ?_
              exact px_ret1 rfl (v := .bool _) rfl (fun _ s => (((((s.del 4).del 3).del 2).del 1).del 0)) ⟨congrArg Value.bool (by first | rfl | simp | (have := below_trans hwf (x := nameR x) (y := nameR y) (z := nameR z) (by simpa using ‹(!t.below (nameR x) (nameR y)) = false›) (by simpa using ‹(!t.below (nameR y) (nameR z)) = false›); rw [this])), rfl⟩
            · have hp10 := hb10
              (try simp only [decide_eq_true_eq, decide_eq_false_iff_not, Bool.not_eq_true', Bool.not_eq_false', ne_eq, Decidable.not_not] at hp10)
              refine ol_q (wn_some rfl rfl rfl hb10 rfl) (op_move (v := .pointer _) rfl) rfl ?_
              refine ol_q (wn_some rfl rfl rfl hb10 rfl) (op_lda (L := rootC _) 2 ag_30 rfl rfl (rootC_take' _) (by simp [rootC_len])) rfl ?_
              refine ol_q (wn_some rfl rfl rfl hb10 rfl) (op_lda (L := rootC _) 1 ag_30 rfl rfl (rootC_take' _) (by simp [rootC_len])) rfl ?_
              refine ol_i (wn_some rfl rfl rfl hb10 rfl) (os_call cb_19 rfl (fun w s => Below_calls _ _ _ _  s )) rfl ?_; rintro _ _ ⟨rfl, rfl⟩
              refine ol_q (wn_some rfl rfl rfl hb10 rfl) (op_not rfl) rfl ?_
              refine ol_q (wn_none rfl) (op_pick_f (v := .bool _) rfl hb10 rfl) rfl ?_
              refine ol_q (wn_none rfl) (op_move (v := .bool _) rfl) rfl ?_
              refine ol_split 104 rfl (fun hb11 => ?_) (fun hb11 => ?_)
              · have hp11 := hb11
                (try simp only [decide_eq_true_eq, decide_eq_false_iff_not, Bool.not_eq_true', Bool.not_eq_false', ne_eq, Decidable.not_not] at hp11)
                refine ol_skip (wn_some rfl rfl rfl hb11 rfl) rfl ?_
                refine ol_skip (wn_some rfl rfl rfl hb11 rfl) rfl ?_
                refine ol_skip (wn_some rfl rfl rfl hb11 rfl) rfl ?_
                refine ol_skip (wn_some rfl rfl rfl hb11 rfl) rfl ?_
                refine ol_q (wn_none rfl) (op_pick_t (v := .bool _) rfl hb11 rfl) rfl ?_
                refine ol_q (wn_none rfl) (op_assign (v := .bool _) rfl) rfl ?_
                refine ol_nil_then ?_
                refine cd_ret ?_
                exact px_ret1 rfl (v := .bool _) rfl (fun _ s => (((((s.del 4).del 3).del 2).del 1).del 0)) ⟨congrArg Value.bool (by first | rfl | simp | (have := below_trans hwf (x := nameR x) (y := nameR y) (z := nameR z) (by simpa using ‹(!t.below (nameR x) (nameR y)) = false›) (by simpa using ‹(!t.below (nameR y) (nameR z)) = false›); rw [this])), rfl⟩
              · have hp11 := hb11
                (try simp only [decide_eq_true_eq, decide_eq_false_iff_not, Bool.not_eq_true', Bool.not_eq_false', ne_eq, Decidable.not_not] at hp11)
                refine ol_q (wn_some rfl rfl rfl hb11 rfl) (op_move (v := .pointer _) rfl) rfl ?_
                refine ol_q (wn_some rfl rfl rfl hb11 rfl) (op_lda (L := rootC _) 3 ag_30 rfl rfl (rootC_take' _) (by simp [rootC_len])) rfl ?_
                refine ol_q (wn_some rfl rfl rfl hb11 rfl) (op_lda (L := rootC _) 1 ag_30 rfl rfl (rootC_take' _) (by simp [rootC_len])) rfl ?_
                refine ol_i (wn_some rfl rfl rfl hb11 rfl) (os_call cb_19 rfl (fun w s => Below_calls _ _ _ _  s )) rfl ?_; rintro _ _ ⟨rfl, rfl⟩
                refine ol_q (wn_none rfl) (op_pick_f (v := .bool _) rfl hb11 rfl) rfl ?_
                refine ol_q (wn_none rfl) (op_assign (v := .bool _) rfl) rfl ?_
                refine ol_nil_then ?_
                refine cd_ret ?_
                exact px_ret1 rfl (v := .bool _) rfl (fun _ s => (((((s.del 4).del 3).del 2).del 1).del 0)) ⟨congrArg Value.bool (by first | rfl | simp | (have := below_trans hwf (x := nameR x) (y := nameR y) (z := nameR z) (by simpa using ‹(!t.below (nameR x) (nameR y)) = false›) (by simpa using ‹(!t.below (nameR y) (nameR z)) = false›); rw [this])), rfl⟩
        · have hp8 := hb8
          (try simp only [decide_eq_true_eq, decide_eq_false_iff_not, Bool.not_eq_true', Bool.not_eq_false', ne_eq, Decidable.not_not] at hp8)
          refine ol_skip (wn_some rfl rfl rfl hb8 rfl) rfl ?_
          refine ol_skip (wn_some rfl rfl rfl hb8 rfl) rfl ?_
          refine ol_skip (wn_some rfl rfl rfl hb8 rfl) rfl ?_
          refine ol_q (wn_none rfl) (op_pick_f (v := .bool _) rfl hb8 rfl) rfl ?_
          refine ol_nil_then ?_
          refine cd_cond_f rfl rfl ?_
          refine cd_skip ?_
          refine px_then ?_
          refine cd_sr ?_   -- 16
          refine ol_q (wn_none rfl) (op_move (v := .pointer _) rfl) rfl ?_
          refine ol_q (wn_none rfl) (op_lda (L := rootC _) 3 ag_30 rfl rfl (rootC_take' _) (by simp [rootC_len])) rfl ?_
          refine ol_q (wn_none rfl) (op_lda (L := rootC _) 2 ag_30 rfl rfl (rootC_take' _) (by simp [rootC_len])) rfl ?_
          refine ol_i (wn_none rfl) (os_call cb_19 rfl (fun w s => Below_calls _ _ _ _  s )) rfl ?_; rintro _ _ ⟨rfl, rfl⟩
          refine ol_q (wn_none rfl) (op_not rfl) rfl ?_
          refine ol_q (wn_none rfl) (op_move (v := .bool _) rfl) rfl ?_
          refine ol_split 97 rfl (fun hb12 => ?_) (fun hb12 => ?_)
          · have hp12 := hb12
            (try simp only [decide_eq_true_eq, decide_eq_false_iff_not, Bool.not_eq_true', Bool.not_eq_false', ne_eq, Decidable.not_not] at hp12)
            refine ol_skip (wn_some rfl rfl rfl hb12 rfl) rfl ?_
            refine ol_skip (wn_some rfl rfl rfl hb12 rfl) rfl ?_
            refine ol_skip (wn_some rfl rfl rfl hb12 rfl) rfl ?_
            refine ol_skip (wn_some rfl rfl rfl hb12 rfl) rfl ?_
            refine ol_skip (wn_some rfl rfl rfl hb12 rfl) rfl ?_
            refine ol_q (wn_none rfl) (op_pick_t (v := .bool _) rfl hb12 rfl) rfl ?_
            refine ol_q (wn_none rfl) (op_move (v := .bool _) rfl) rfl ?_
            refine ol_skip (wn_some rfl rfl rfl rfl rfl) rfl ?_
            refine ol_skip (wn_some rfl rfl rfl rfl rfl) rfl ?_
            refine ol_skip (wn_some rfl rfl rfl rfl rfl) rfl ?_
            refine ol_skip (wn_some rfl rfl rfl rfl rfl) rfl ?_
            refine ol_q (wn_none rfl) (op_pick_t (v := .bool _) rfl rfl rfl) rfl ?_
            refine ol_q (wn_none rfl) (op_assign (v := .bool _) rfl) rfl ?_
            refine ol_nil_then ?_
            refine cd_ret ?_
            exact px_ret1 rfl (v := .bool _) rfl (fun _ s => (((((s.del 4).del 3).del 2).del 1).del 0)) ⟨congrArg Value.bool (by first | rfl | simp | (have := below_trans hwf (x := nameR x) (y := nameR y) (z := nameR z) (by simpa using ‹(!t.below (nameR x) (nameR y)) = false›) (by simpa using ‹(!t.below (nameR y) (nameR z)) = false›); rw [this])), rfl⟩
          · have hp12 := hb12
            (try simp only [decide_eq_true_eq, decide_eq_false_iff_not, Bool.not_eq_true', Bool.not_eq_false', ne_eq, Decidable.not_not] at hp12)
            refine ol_q (wn_some rfl rfl rfl hb12 rfl) (op_move (v := .pointer _) rfl) rfl ?_
            refine ol_q (wn_some rfl rfl rfl hb12 rfl) (op_lda (L := rootC _) 2 ag_30 rfl rfl (rootC_take' _) (by simp [rootC_len])) rfl ?_
            refine ol_q (wn_some rfl rfl rfl hb12 rfl) (op_lda (L := rootC _) 1 ag_30 rfl rfl (rootC_take' _) (by simp [rootC_len])) rfl ?_
            refine ol_i (wn_some rfl rfl rfl hb12 rfl) (os_call cb_19 rfl (fun w s => Below_calls _ _ _ _  s )) rfl ?_; rintro _ _ ⟨rfl, rfl⟩
            refine ol_q (wn_some rfl rfl rfl hb12 rfl) (op_not rfl) rfl ?_
            refine ol_q (wn_none rfl) (op_pick_f (v := .bool _) rfl hb12 rfl) rfl ?_
            refine ol_q (wn_none rfl) (op_move (v := .bool _) rfl) rfl ?_
            refine ol_split 104 rfl (fun hb13 => ?_) (fun hb13 => ?_)
            · have hp13 := hb13
              (try simp only [decide_eq_true_eq, decide_eq_false_iff_not, Bool.not_eq_true', Bool.not_eq_false', ne_eq, Decidable.not_not] at hp13)
              refine ol_skip (wn_some rfl rfl rfl hb13 rfl) rfl ?_
              refine ol_skip (wn_some rfl rfl rfl hb13 rfl) rfl ?_
              refine ol_skip (wn_some rfl rfl rfl hb13 rfl) rfl ?_
              refine ol_skip (wn_some rfl rfl rfl hb13 rfl) rfl ?_
              refine ol_q (wn_none rfl) (op_pick_t (v := .bool _) rfl hb13 rfl) rfl ?_
              refine ol_q (wn_none rfl) (op_assign (v := .bool _) rfl) rfl ?_
              refine ol_nil_then ?_
              refine cd_ret ?_
              exact px_ret1 rfl (v := .bool _) rfl (fun _ s => (((((s.del 4).del 3).del 2).del 1).del 0)) ⟨congrArg Value.bool (by first | rfl | simp | (have := below_trans hwf (x := nameR x) (y := nameR y) (z := nameR z) (by simpa using ‹(!t.below (nameR x) (nameR y)) = false›) (by simpa using ‹(!t.below (nameR y) (nameR z)) = false›); rw [this])), rfl⟩
            · have hp13 := hb13
              (try simp only [decide_eq_true_eq, decide_eq_false_iff_not, Bool.not_eq_true', Bool.not_eq_false', ne_eq, Decidable.not_not] at hp13)
              refine ol_q (wn_some rfl rfl rfl hb13 rfl) (op_move (v := .pointer _) rfl) rfl ?_
              refine ol_q (wn_some rfl rfl rfl hb13 rfl) (op_lda (L := rootC _) 3 ag_30 rfl rfl (rootC_take' _) (by simp [rootC_len])) rfl ?_
              refine ol_q (wn_some rfl rfl rfl hb13 rfl) (op_lda (L := rootC _) 1 ag_30 rfl rfl (rootC_take' _) (by simp [rootC_len])) rfl ?_
              refine ol_i (wn_some rfl rfl rfl hb13 rfl) (os_call cb_19 rfl (fun w s => Below_calls _ _ _ _  s )) rfl ?_; rintro _ _ ⟨rfl, rfl⟩
              refine ol_q (wn_none rfl) (op_pick_f (v := .bool _) rfl hb13 rfl) rfl ?_
              refine ol_q (wn_none rfl) (op_assign (v := .bool _) rfl) rfl ?_
              refine ol_nil_then ?_
              refine cd_ret ?_
              exact px_ret1 rfl (v := .bool _) rfl (fun _ s => (((((s.del 4).del 3).del 2).del 1).del 0)) ⟨congrArg Value.bool (by first | rfl | simp | (have := below_trans hwf (x := nameR x) (y := nameR y) (z := nameR z) (by simpa using ‹(!t.below (nameR x) (nameR y)) = false›) (by simpa using ‹(!t.below (nameR y) (nameR z)) = false›); rw [this])), rfl⟩
      · have hp7 := hb7
        (try simp only [decide_eq_true_eq, decide_eq_false_iff_not, Bool.not_eq_true', Bool.not_eq_false', ne_eq, Decidable.not_not] at hp7)
        refine ol_skip (wn_some rfl rfl rfl hb7 rfl) rfl ?_
        refine ol_skip (wn_some rfl rfl rfl hb7 rfl) rfl ?_
        refine ol_skip (wn_some rfl rfl rfl hb7 rfl) rfl ?_
        refine ol_skip (wn_some rfl rfl rfl hb7 rfl) rfl ?_
        refine ol_q (wn_none rfl) (op_pick_f (v := .bool _) rfl hb7 rfl) rfl ?_
        refine ol_q (wn_none rfl) (op_move (v := .bool _) rfl) rfl ?_
        refine ol_skip (wn_some rfl rfl rfl rfl rfl) rfl ?_
        refine ol_skip (wn_some rfl rfl rfl rfl rfl) rfl ?_
        refine ol_skip (wn_some rfl rfl rfl rfl rfl) rfl ?_
        refine ol_q (wn_none rfl) (op_pick_f (v := .bool _) rfl rfl rfl) rfl ?_
        refine ol_nil_then ?_
        refine cd_cond_f rfl rfl ?_
        refine cd_skip ?_
        refine px_then ?_
        refine cd_sr ?_   -- 16
        refine ol_q (wn_none rfl) (op_move (v := .pointer _) rfl) rfl ?_
        refine ol_q (wn_none rfl) (op_lda (L := rootC _) 3 ag_30 rfl rfl (rootC_take' _) (by simp [rootC_len])) rfl ?_
        refine ol_q (wn_none rfl) (op_lda (L := rootC _) 2 ag_30 rfl rfl (rootC_take' _) (by simp [rootC_len])) rfl ?_
        refine ol_i (wn_none rfl) (os_call cb_19 rfl (fun w s => Below_calls _ _ _ _  s )) rfl ?_; rintro _ _ ⟨rfl, rfl⟩
        refine ol_q (wn_none rfl) (op_not rfl) rfl ?_
        refine ol_q (wn_none rfl) (op_move (v := .bool _) rfl) rfl ?_
        refine ol_split 97 rfl (fun hb14 => ?_) (fun hb14 => ?_)
        · have hp14 := hb14
          (try simp only [decide_eq_true_eq, decide_eq_false_iff_not, Bool.not_eq_true', Bool.not_eq_false', ne_eq, Decidable.not_not] at hp14)
          refine ol_skip (wn_some rfl rfl rfl hb14 rfl) rfl ?_
          refine ol_skip (wn_some rfl rfl rfl hb14 rfl) rfl ?_
          refine ol_skip (wn_some rfl rfl rfl hb14 rfl) rfl ?_
          refine ol_skip (wn_some rfl rfl rfl hb14 rfl) rfl ?_
          refine ol_skip (wn_some rfl rfl rfl hb14 rfl) rfl ?_
          refine ol_q (wn_none rfl) (op_pick_t (v := .bool _) rfl hb14 rfl) rfl ?_
          refine ol_q (wn_none rfl) (op_move (v := .bool _) rfl) rfl ?_
          refine ol_skip (wn_some rfl rfl rfl rfl rfl) rfl ?_
          refine ol_skip (wn_some rfl rfl rfl rfl rfl) rfl ?_
          refine ol_skip (wn_some rfl rfl rfl rfl rfl) rfl ?_
          refine ol_skip (wn_some rfl rfl rfl rfl rfl) rfl ?_
          refine ol_q (wn_none rfl) (op_pick_t (v := .bool _) rfl rfl rfl) rfl ?_
          refine ol_q (wn_none rfl) (op_assign (v := .bool _) rfl) rfl ?_
          refine ol_nil_then ?_
          refine cd_ret ?_
          exact px_ret1 rfl (v := .bool _) rfl (fun _ s => (((((s.del 4).del 3).del 2).del 1).del 0)) ⟨congrArg Value.bool (by first | rfl | simp | (have := below_trans hwf (x := nameR x) (y := nameR y) (z := nameR z) (by simpa using ‹(!t.below (nameR x) (nameR y)) = false›) (by simpa using ‹(!t.below (nameR y) (nameR z)) = false›); rw [this])), rfl⟩
        · have hp14 := hb14
          (try simp only [decide_eq_true_eq, decide_eq_false_iff_not, Bool.not_eq_true', Bool.not_eq_false', ne_eq, Decidable.not_not] at hp14)
          refine ol_q (wn_some rfl rfl rfl hb14 rfl) (op_move (v := .pointer _) rfl) rfl ?_
          refine ol_q (wn_some rfl rfl rfl hb14 rfl) (op_lda (L := rootC _) 2 ag_30 rfl rfl (rootC_take' _) (by simp [rootC_len])) rfl ?_
          refine ol_q (wn_some rfl rfl rfl hb14 rfl) (op_lda (L := rootC _) 1 ag_30 rfl rfl (rootC_take' _) (by simp [rootC_len])) rfl ?_
          refine ol_i (wn_some rfl rfl rfl hb14 rfl) (os_call cb_19 rfl (fun w s => Below_calls _ _ _ _  s )) rfl ?_; rintro _ _ ⟨rfl, rfl⟩
          refine ol_q (wn_some rfl rfl rfl hb14 rfl) (op_not rfl) rfl ?_
          refine ol_q (wn_none rfl) (op_pick_f (v := .bool _) rfl hb14 rfl) rfl ?_
          refine ol_q (wn_none rfl) (op_move (v := .bool _) rfl) rfl ?_
          refine ol_split 104 rfl (fun hb15 => ?_) (fun hb15 => ?_)
          · have hp15 := hb15
            (try simp only [decide_eq_true_eq, decide_eq_false_iff_not, Bool.not_eq_true', Bool.not_eq_false', ne_eq, Decidable.not_not] at hp15)
            refine ol_skip (wn_some rfl rfl rfl hb15 rfl) rfl ?_
            refine ol_skip (wn_some rfl rfl rfl hb15 rfl) rfl ?_
            refine ol_skip (wn_some rfl rfl rfl hb15 rfl) rfl ?_
            refine ol_skip (wn_some rfl rfl rfl hb15 rfl) rfl ?_
            refine ol_q (wn_none rfl) (op_pick_t (v := .bool _) rfl hb15 rfl) rfl ?_
            refine ol_q (wn_none rfl) (op_assign (v := .bool _) rfl) rfl ?_
            refine ol_nil_then ?_
            refine cd_ret ?_
            exact px_ret1 rfl (v := .bool _) rfl (fun _ s => (((((s.del 4).del 3).del 2).del 1).del 0)) ⟨congrArg Value.bool (by first | rfl | simp | (have := below_trans hwf (x := nameR x) (y := nameR y) (z := nameR z) (by simpa using ‹(!t.below (nameR x) (nameR y)) = false›) (by simpa using ‹(!t.below (nameR y) (nameR z)) = false›); rw [this])), rfl⟩
          · have hp15 := hb15
            (try simp only [decide_eq_true_eq, decide_eq_false_iff_not, Bool.not_eq_true', Bool.not_eq_false', ne_eq, Decidable.not_not] at hp15)
            refine ol_q (wn_some rfl rfl rfl hb15 rfl) (op_move (v := .pointer _) rfl) rfl ?_
            refine ol_q (wn_some rfl rfl rfl hb15 rfl) (op_lda (L := rootC _) 3 ag_30 rfl rfl (rootC_take' _) (by simp [rootC_len])) rfl ?_
            refine ol_q (wn_some rfl rfl rfl hb15 rfl) (op_lda (L := rootC _) 1 ag_30 rfl rfl (rootC_take' _) (by simp [rootC_len])) rfl ?_
            refine ol_i (wn_some rfl rfl rfl hb15 rfl) (os_call cb_19 rfl (fun w s => Below_calls _ _ _ _  s )) rfl ?_; rintro _ _ ⟨rfl, rfl⟩
            refine ol_q (wn_none rfl) (op_pick_f (v := .bool _) rfl hb15 rfl) rfl ?_
            refine ol_q (wn_none rfl) (op_assign (v := .bool _) rfl) rfl ?_
            refine ol_nil_then ?_
            refine cd_ret ?_
            exact px_ret1 rfl (v := .bool _) rfl (fun _ s => (((((s.del 4).del 3).del 2).del 1).del 0)) ⟨congrArg Value.bool (by first | rfl | simp | (have := below_trans hwf (x := nameR x) (y := nameR y) (z := nameR z) (by simpa using ‹(!t.below (nameR x) (nameR y)) = false›) (by simpa using ‹(!t.below (nameR y) (nameR z)) = false›); rw [this])), rfl⟩

set_option maxRecDepth 100000 in
set_option maxHeartbeats 1000000 in
theorem TreeOnce_calls {w0 w : World} {l : List HProp} (ao : Option Addr) (c : Nat) (xs : List TAdd) (cut : Int) (hs : Sat w0 w (l)) (hr : Rds w0 l encTAdd ao xs) (hc : xs.length ≤ c) (hq : ∀ a ∈ xs, I64 a.root ∧ I64 a.parent ∧ I64 a.slot) :
    Calls Try.prog 4 #[.slice ao xs.length c, .int .i64 cut] w (Ret w0 fun v l' => v = .bool true ∧ l' = l) := by
  refine calls_enter Try.func4 rfl rfl rfl hs ?_
  refine cd_sr ?_   -- 0
  refine ol_q (wn_none rfl) (op_assign (v := .bool _) rfl) rfl ?_
  refine ol_nil_then ?_
  refine cd_seq ?_
  refine cd_sr ?_   -- 1
  refine ol_i (wn_none rfl) (os_call cb_15 rfl (fun w s => treeAlive_calls  s )) rfl ?_; rintro _ l ⟨rfl, rfl⟩
  refine ol_q (wn_none rfl) (op_not rfl) rfl ?_
  refine ol_nil_then ?_
  refine cd_cond_f rfl rfl ?_
  refine cd_skip ?_
  refine px_then ?_
  refine cd_seq ?_
  refine cd_sr ?_   -- 3
  refine ol_q (wn_none rfl) (op_move (v := .slice _ _ _) rfl) rfl ?_
  refine ol_q (wn_none rfl) (op_len_slice Try.underlying22 rfl) rfl ?_
  refine ol_q (wn_none rfl) (op_gt rfl rfl) rfl ?_
  refine ol_q (wn_none rfl) (op_move (v := .bool _) rfl) rfl ?_
  refine ol_split 19 rfl (fun hb1 => ?_) (fun hb1 => ?_)
  · have hp1 := hb1
    (try simp only [decide_eq_true_eq, decide_eq_false_iff_not, Bool.not_eq_true', Bool.not_eq_false', ne_eq, Decidable.not_not] at hp1)
    refine ol_skip (wn_some rfl rfl rfl hb1 rfl) rfl ?_
    refine ol_skip (wn_some rfl rfl rfl hb1 rfl) rfl ?_
    refine ol_q (wn_none rfl) (op_pick_t (v := .bool _) rfl hb1 rfl) rfl ?_
    refine ol_q (wn_none rfl) (op_move (v := .bool _) rfl) rfl ?_
    refine ol_skip (wn_some rfl rfl rfl rfl rfl) rfl ?_
    refine ol_skip (wn_some rfl rfl rfl rfl rfl) rfl ?_
    refine ol_skip (wn_some rfl rfl rfl rfl rfl) rfl ?_
    refine ol_skip (wn_some rfl rfl rfl rfl rfl) rfl ?_
    refine ol_q (wn_none rfl) (op_pick_t (v := .bool _) rfl rfl rfl) rfl ?_
    refine ol_nil_then ?_
    refine cd_cond_t rfl rfl ?_
    refine cd_sr ?_   -- 4
    refine ol_q (wn_none rfl) (op_assign (v := .bool _) rfl) rfl ?_
    refine ol_nil_then ?_
    refine cd_ret ?_
    refine px_thenR ?_
    exact px_ret1 rfl (v := .bool _) rfl (fun _ s => s) ⟨congrArg Value.bool (by simp), rfl⟩
  · have hp1 := hb1
    (try simp only [decide_eq_true_eq, decide_eq_false_iff_not, Bool.not_eq_true', Bool.not_eq_false', ne_eq, Decidable.not_not] at hp1)
    refine ol_q (wn_some rfl rfl rfl hb1 rfl) (op_move (v := .int _ _) rfl) rfl ?_
    refine ol_q (wn_some rfl rfl rfl hb1 rfl) (op_lt rfl rfl) rfl ?_
    refine ol_q (wn_none rfl) (op_pick_f (v := .bool _) rfl hb1 rfl) rfl ?_
    refine ol_q (wn_none rfl) (op_move (v := .bool _) rfl) rfl ?_
    refine ol_split 23 rfl (fun hb2 => ?_) (fun hb2 => ?_)
    · have hp2 := hb2
      (try simp only [decide_eq_true_eq, decide_eq_false_iff_not, Bool.not_eq_true', Bool.not_eq_false', ne_eq, Decidable.not_not] at hp2)
      refine ol_skip (wn_some rfl rfl rfl hb2 rfl) rfl ?_
      refine ol_skip (wn_some rfl rfl rfl hb2 rfl) rfl ?_
      refine ol_skip (wn_some rfl rfl rfl hb2 rfl) rfl ?_
      refine ol_skip (wn_some rfl rfl rfl hb2 rfl) rfl ?_
      refine ol_q (wn_none rfl) (op_pick_t (v := .bool _) rfl hb2 rfl) rfl ?_
      refine ol_nil_then ?_
      refine cd_cond_t rfl rfl ?_
      refine cd_sr ?_   -- 4
      refine ol_q (wn_none rfl) (op_assign (v := .bool _) rfl) rfl ?_
      refine ol_nil_then ?_
      refine cd_ret ?_
      refine px_thenR ?_
      exact px_ret1 rfl (v := .bool _) rfl (fun _ s => s) ⟨congrArg Value.bool (by simp), rfl⟩
    · have hp2 := hb2
      (try simp only [decide_eq_true_eq, decide_eq_false_iff_not, Bool.not_eq_true', Bool.not_eq_false', ne_eq, Decidable.not_not] at hp2)
      refine ol_q (wn_some rfl rfl rfl hb2 rfl) (op_move (v := .int _ _) rfl) rfl ?_
      refine ol_q (wn_some rfl rfl rfl hb2 rfl) (op_move (v := .slice _ _ _) rfl) rfl ?_
      refine ol_q (wn_some rfl rfl rfl hb2 rfl) (op_len_slice Try.underlying22 rfl) rfl ?_
      refine ol_q (wn_some rfl rfl rfl hb2 rfl) (op_gt rfl rfl) rfl ?_
      refine ol_q (wn_none rfl) (op_pick_f (v := .bool _) rfl hb2 rfl) rfl ?_
      refine ol_nil_then ?_
      refine cd_cond rfl (fun hb3 => ?_) (fun hb3 => ?_)
      · have hp3 := hb3
        (try simp only [decide_eq_true_eq, decide_eq_false_iff_not, Bool.not_eq_true', Bool.not_eq_false', ne_eq, Decidable.not_not] at hp3)
        refine cd_sr ?_   -- 4
        refine ol_q (wn_none rfl) (op_assign (v := .bool _) rfl) rfl ?_
        refine ol_nil_then ?_
        refine cd_ret ?_
        refine px_thenR ?_
        exact px_ret1 rfl (v := .bool _) rfl (fun _ s => s) ⟨congrArg Value.bool (by simp), rfl⟩
      · have hp3 := hb3
        (try simp only [decide_eq_true_eq, decide_eq_false_iff_not, Bool.not_eq_true', Bool.not_eq_false', ne_eq, Decidable.not_not] at hp3)
        refine cd_skip ?_
        refine px_then ?_
        obtain ⟨k0, rfl⟩ : ∃ k : Nat, cut = k := ⟨cut.toNat, by omega⟩
        refine cd_sr ?_   -- 5
        refine ol_q (wn_none rfl) (op_move (v := .slice _ _ _) rfl) rfl ?_
        refine ol_q (wn_none rfl) (op_move (v := .int _ _) rfl) rfl ?_
        refine ol_q (wn_none rfl) (op_slice_tor k0 sB_22 rfl rfl rfl hr rfl (by omega) (by omega)) rfl ?_
        refine ol_i (wn_none rfl) (os_call cb_16 rfl (fun w s => treeMade_calls _ _ _  s (hr.take _) (by simp; omega))) rfl ?_; rintro _ _ ⟨pt2k, qt2k, rfl, rfl⟩
        refine ol_q (wn_none rfl) (op_move (v := .tuple _) rfl) rfl ?_
        refine ol_q (wn_none rfl) (op_extract (v := .pointer _) rfl rfl) rfl ?_
        refine ol_q (wn_none rfl) (op_extract (v := .pointer _) rfl rfl) rfl ?_
        refine ol_q (wn_none rfl) (op_assign (v := .pointer _) rfl) rfl ?_
        refine ol_q (wn_none rfl) (op_assign (v := .pointer _) rfl) rfl ?_
        refine ol_nil_then ?_
        refine cd_sr ?_   -- 6
        refine ol_q (wn_none rfl) (op_move (v := .slice _ _ _) rfl) rfl ?_
        refine ol_i (wn_none rfl) (os_call cb_16 rfl (fun w s => treeMade_calls _ _ _  s ((hr.cons _).cons _) (by first | omega | (simp; omega)))) rfl ?_; rintro _ _ ⟨pt3k, qt3k, rfl, rfl⟩
        refine ol_q (wn_none rfl) (op_move (v := .tuple _) rfl) rfl ?_
        refine ol_q (wn_none rfl) (op_extract (v := .pointer _) rfl rfl) rfl ?_
        refine ol_q (wn_none rfl) (op_extract (v := .pointer _) rfl rfl) rfl ?_
        refine ol_q (wn_none rfl) (op_assign (v := .pointer _) rfl) rfl ?_
        refine ol_q (wn_none rfl) (op_assign (v := .pointer _) rfl) rfl ?_
        refine ol_nil_then ?_
        refine cd_seq ?_
        have hwa : ((TreeS.new (nameR 0) 0 256).adds (xs.take k0)).WF := (TreeS.WF.new (by decide) (by decide) (by decide) (by decide)).adds _
        obtain ⟨zs, hzs⟩ := (TreeS.adds_more ((TreeS.new (nameR 0) 0 256).adds (xs.take k0)) (xs.drop k0)).2
        rw [← TreeS.adds_append, List.take_append_drop] at hzs
        generalize (TreeS.new (nameR 0) 0 256).adds (xs.take k0) = A at *
        generalize (TreeS.new (nameR 0) 0 256).adds xs = B at *
        have hABl : A.nodes.length ≤ B.nodes.length := by rw [hzs]; simp
        have hm2 := hwa.m2; have hle := hwa.le
        refine cd_sr ?_   -- 7
        refine ol_q (wn_none rfl) (op_move (v := .pointer _) rfl) rfl ?_
        refine ol_pull3 ?_
        refine ol_i (wn_none rfl) (os_call cb_17 rfl (fun w s => Len_calls _ _  s )) rfl ?_; rintro _ _ ⟨rfl, rfl⟩
        refine ol_q (wn_none rfl) (op_move (v := .pointer _) rfl) rfl ?_
        refine ol_pull2 ?_
        refine ol_i (wn_none rfl) (os_call cb_17 rfl (fun w s => Len_calls _ _  s )) rfl ?_; rintro _ _ ⟨rfl, rfl⟩
        refine ol_q (wn_none rfl) (op_gt rfl rfl) rfl ?_
        refine ol_nil_then ?_
        refine cd_cond rfl (fun hb4 => ?_) (fun hb4 => ?_)
        · have hp4 := hb4
          (try simp only [decide_eq_true_eq, decide_eq_false_iff_not, Bool.not_eq_true', Bool.not_eq_false', ne_eq, Decidable.not_not] at hp4)
          exact absurd hb4 (by simp; omega)
        · have hp4 := hb4
          (try simp only [decide_eq_true_eq, decide_eq_false_iff_not, Bool.not_eq_true', Bool.not_eq_false', ne_eq, Decidable.not_not] at hp4)
          refine cd_skip ?_
          refine px_then ?_
          refine cd_seq ?_
          refine cd_sr ?_   -- 9
          refine ol_q (wn_none rfl) (op_assign (v := .int _ _) rfl) rfl ?_
          refine ol_nil_then ?_
          refine cd_block ?_
          refine cd_loop2 (α := Nat) [(4, 4), (9, 13), (46, 70)] (fun x => [(9, .int .i64 (x : Int))]) (fun _ => _) (fun x => x ≤ A.nodes.length) (fun x => A.nodes.length - x) 0 (Nat.zero_le _) ⟨rfl, trivial⟩ (fun _ s => s) ?_
          rintro i hi f; (try dsimp only at hi ⊢)
          refine cd_seq ?_
          refine cd_sr ?_   -- 10
          refine ol_q (wn_none rfl) (op_move (v := .int _ _) rfl) rfl ?_
          refine ol_q (wn_none rfl) (op_move (v := .pointer _) rfl) rfl ?_
          refine ol_pull1 ?_
          refine ol_i (wn_none rfl) (os_call cb_17 rfl (fun w s => Len_calls _ _  s )) rfl ?_; rintro _ _ ⟨rfl, rfl⟩
          refine ol_q (wn_none rfl) (op_lt rfl rfl) rfl ?_
          refine ol_nil_then ?_
          refine cd_cond rfl (fun hb5 => ?_) (fun hb5 => ?_)
          · have hp5 := hb5
            (try simp only [decide_eq_true_eq, decide_eq_false_iff_not, Bool.not_eq_true', Bool.not_eq_false', ne_eq, Decidable.not_not] at hp5)
            have hil : i < A.nodes.length := by omega
            have hna := TreeS.node_nat hil
            have hnb : B.node (i : Int) = some A.nodes[i] := by rw [TreeS.node_nat (by omega)]; congr 1; simp only [hzs]; exact List.getElem_append_left hil
            refine cd_skip ?_
            refine px_then ?_
            refine cd_seq ?_
            refine cd_block ?_
            refine cd_sr ?_   -- 12
            refine ol_q (wn_none rfl) (op_move (v := .pointer _) rfl) rfl ?_
            refine ol_q (wn_none rfl) (op_move (v := .int _ _) rfl) rfl ?_
            refine ol_i (wn_none rfl) (os_call cb_18 rfl (fun w s => Node_calls _ _ _  s )) rfl ?_; rintro _ _ ⟨rfl, rfl⟩; rw [hna]; simp only [Option.getD_some, Option.isSome_some]
            refine ol_q (wn_none rfl) (op_move (v := .tuple _) rfl) rfl ?_
            refine ol_q (wn_none rfl) (op_extract (v := .agg _) rfl rfl) rfl ?_
            refine ol_q (wn_none rfl) (op_extract (v := .bool _) rfl rfl) rfl ?_
            refine ol_i (wn_none rfl) (os_alloc (cs := (nodeC Node.zero).toArray) zB_32 (by kernel_rfl)) rfl ?_; rintro _ _ ⟨bx1, rfl, rfl⟩
            refine ol_iN (wn_none rfl) (os_storew (nodeC _) ag_32 rfl rfl (nodeC_len _) (nodeC_one _) (by simp [nodeC_len]) (Free.zero _)) ?_; rintro _ _ ⟨rfl, rfl⟩
            refine ol_q (wn_none rfl) (op_assign (v := .bool _) rfl) rfl ?_
            refine ol_nil_then ?_
            refine cd_sr ?_   -- 13
            refine ol_q (wn_none rfl) (op_move (v := .pointer _) rfl) rfl ?_
            refine ol_q (wn_none rfl) (op_move (v := .int _ _) rfl) rfl ?_
            refine ol_pull2 ?_
            refine ol_i (wn_none rfl) (os_call cb_18 rfl (fun w s => Node_calls _ _ _  s )) rfl ?_; rintro _ _ ⟨rfl, rfl⟩; rw [hnb]; simp only [Option.getD_some, Option.isSome_some]
            refine ol_q (wn_none rfl) (op_move (v := .tuple _) rfl) rfl ?_
            refine ol_q (wn_none rfl) (op_extract (v := .agg _) rfl rfl) rfl ?_
            refine ol_q (wn_none rfl) (op_extract (v := .bool _) rfl rfl) rfl ?_
            refine ol_i (wn_none rfl) (os_alloc (cs := (nodeC Node.zero).toArray) zB_32 (by kernel_rfl)) rfl ?_; rintro _ _ ⟨bx2, rfl, rfl⟩
            refine ol_iN (wn_none rfl) (os_storew (nodeC _) ag_32 rfl rfl (nodeC_len _) (nodeC_one _) (by simp [nodeC_len]) (Free.zero _)) ?_; rintro _ _ ⟨rfl, rfl⟩
            refine ol_q (wn_none rfl) (op_assign (v := .bool _) rfl) rfl ?_
            refine ol_nil_then ?_
            refine cd_sr ?_   -- 14
            refine ol_q (wn_none rfl) (op_move (v := .bool _) rfl) rfl ?_
            refine ol_q (wn_none rfl) (op_not rfl) rfl ?_
            refine ol_q (wn_none rfl) (op_move (v := .bool _) rfl) rfl ?_
            refine ol_split 66 rfl (fun hb6 => ?_) (fun hb6 => ?_)
            · have hp6 := hb6
              (try simp only [decide_eq_true_eq, decide_eq_false_iff_not, Bool.not_eq_true', Bool.not_eq_false', ne_eq, Decidable.not_not] at hp6)
              exact absurd hb6 (by simp)
            · have hp6 := hb6
              (try simp only [decide_eq_true_eq, decide_eq_false_iff_not, Bool.not_eq_true', Bool.not_eq_false', ne_eq, Decidable.not_not] at hp6)
              refine ol_q (wn_some rfl rfl rfl hb6 rfl) (op_lda (L := nodeC _) 2 ag_32 rfl rfl (nodeC_ta _) (by simp [nodeC_len])) rfl ?_
              refine ol_q (wn_some rfl rfl rfl hb6 rfl) (op_lda (L := nodeC _) 0 ag_32 rfl rfl (nodeC_ta _) (by simp [nodeC_len])) rfl ?_
              refine ol_q (wn_some rfl rfl rfl hb6 rfl) (op_nes stB_32 rfl rfl (feq_Node fs_32 Try.underlying3 rB_30 _ _)) rfl ?_
              refine ol_q (wn_none rfl) (op_pick_f (v := .bool _) rfl hb6 rfl) rfl ?_
              refine ol_nil_then ?_
              refine cd_cond rfl (fun hb7 => ?_) (fun hb7 => ?_)
              · have hp7 := hb7
                (try simp only [decide_eq_true_eq, decide_eq_false_iff_not, Bool.not_eq_true', Bool.not_eq_false', ne_eq, Decidable.not_not] at hp7)
                exact absurd hb7 (by simp)
              · have hp7 := hb7
                (try simp only [decide_eq_true_eq, decide_eq_false_iff_not, Bool.not_eq_true', Bool.not_eq_false', ne_eq, Decidable.not_not] at hp7)
                refine cd_skip ?_
                refine px_blockN ?_
                refine px_then ?_
                refine cd_region ?_   -- 11
                refine ol_q (wn_none rfl) (op_move (v := .int _ _) rfl) rfl ?_
                refine ol_q (wn_none rfl) (op_add rfl rfl (by omega) (by omega)) rfl ?_
                refine ol_q (wn_none rfl) (op_assign (v := .int _ _) rfl) rfl ?_
                refine ol_nil ?_
                refine px_loop2 (i + 1) (by omega) (by (try dsimp only); omega) ⟨congrArg (Value.int .i64) (by simp), trivial⟩ ?_ (fun _ s => ((s.del 2).del 0))
                repeat (first | exact kept_over | refine kept_upd rfl ?_ | refine kept_overS (by decide) ?_)
          · have hp5 := hb5
            (try simp only [decide_eq_true_eq, decide_eq_false_iff_not, Bool.not_eq_true', Bool.not_eq_false', ne_eq, Decidable.not_not] at hp5)
            refine cd_exit ?_
            refine px_thenE ?_
            refine px_thenE ?_
            refine px_blockE ?_
            refine px_then ?_
            refine cd_sr ?_   -- 16
            refine ol_q (wn_none rfl) (op_assign (v := .bool _) rfl) rfl ?_
            refine ol_nil_then ?_
            refine cd_ret ?_
            exact px_ret1 rfl (v := .bool _) rfl (fun _ s => ((((s.del 3).del 2).del 1).del 0)) ⟨congrArg Value.bool (by simp), rfl⟩

set_option maxRecDepth 100000 in
set_option maxHeartbeats 1000000 in
theorem TreeFull_calls {w0 w : World} {l : List HProp} (most blocks : Int) (hs : Sat w0 w (l))  :
    Calls Try.prog 5 #[.int .i64 most, .int .i64 blocks] w (Ret w0 fun v l' => v = .bool true ∧ l' = l) := by
  refine calls_enter Try.func5 rfl rfl rfl hs ?_
  refine cd_sr ?_   -- 0
  refine ol_q (wn_none rfl) (op_assign (v := .bool _) rfl) rfl ?_
  refine ol_nil_then ?_
  refine cd_seq ?_
  refine cd_sr ?_   -- 1
  refine ol_i (wn_none rfl) (os_call cb_15 rfl (fun w s => treeAlive_calls  s )) rfl ?_; rintro _ l ⟨rfl, rfl⟩
  refine ol_q (wn_none rfl) (op_not rfl) rfl ?_
  refine ol_nil_then ?_
  refine cd_cond_f rfl rfl ?_
  refine cd_skip ?_
  refine px_then ?_
  refine cd_seq ?_
  refine cd_sr ?_   -- 3
  refine ol_q (wn_none rfl) (op_move (v := .int _ _) rfl) rfl ?_
  refine ol_q (wn_none rfl) (op_lt rfl rfl) rfl ?_
  refine ol_q (wn_none rfl) (op_move (v := .bool _) rfl) rfl ?_
  refine ol_split 14 rfl (fun hb1 => ?_) (fun hb1 => ?_)
  · have hp1 := hb1
    (try simp only [decide_eq_true_eq, decide_eq_false_iff_not, Bool.not_eq_true', Bool.not_eq_false', ne_eq, Decidable.not_not] at hp1)
    refine ol_skip (wn_some rfl rfl rfl hb1 rfl) rfl ?_
    refine ol_skip (wn_some rfl rfl rfl hb1 rfl) rfl ?_
    refine ol_q (wn_none rfl) (op_pick_t (v := .bool _) rfl hb1 rfl) rfl ?_
    refine ol_nil_then ?_
    refine cd_cond_t rfl rfl ?_
    refine cd_sr ?_   -- 4
    refine ol_q (wn_none rfl) (op_assign (v := .bool _) rfl) rfl ?_
    refine ol_nil_then ?_
    refine cd_ret ?_
    refine px_thenR ?_
    exact px_ret1 rfl (v := .bool _) rfl (fun _ s => s) ⟨congrArg Value.bool (by first | rfl | (simp; omega)), rfl⟩
  · have hp1 := hb1
    (try simp only [decide_eq_true_eq, decide_eq_false_iff_not, Bool.not_eq_true', Bool.not_eq_false', ne_eq, Decidable.not_not] at hp1)
    refine ol_q (wn_some rfl rfl rfl hb1 rfl) (op_move (v := .int _ _) rfl) rfl ?_
    refine ol_q (wn_some rfl rfl rfl hb1 rfl) (op_gt rfl rfl) rfl ?_
    refine ol_q (wn_none rfl) (op_pick_f (v := .bool _) rfl hb1 rfl) rfl ?_
    refine ol_nil_then ?_
    refine cd_cond rfl (fun hb2 => ?_) (fun hb2 => ?_)
    · have hp2 := hb2
      (try simp only [decide_eq_true_eq, decide_eq_false_iff_not, Bool.not_eq_true', Bool.not_eq_false', ne_eq, Decidable.not_not] at hp2)
      refine cd_sr ?_   -- 4
      refine ol_q (wn_none rfl) (op_assign (v := .bool _) rfl) rfl ?_
      refine ol_nil_then ?_
      refine cd_ret ?_
      refine px_thenR ?_
      exact px_ret1 rfl (v := .bool _) rfl (fun _ s => s) ⟨congrArg Value.bool (by first | rfl | (simp; omega)), rfl⟩
    · have hp2 := hb2
      (try simp only [decide_eq_true_eq, decide_eq_false_iff_not, Bool.not_eq_true', Bool.not_eq_false', ne_eq, Decidable.not_not] at hp2)
      refine cd_skip ?_
      refine px_then ?_
      refine cd_sr ?_   -- 5
      refine ol_i (wn_none rfl) (os_call cb_20 rfl (fun w s => Name_calls (n := 0)  s )) rfl ?_; rintro _ l ⟨rfl, rfl⟩
      refine ol_q (wn_none rfl) (op_move (v := .int _ _) rfl) rfl ?_
      refine ol_i (wn_none rfl) (os_call cb_21 rfl (fun w s => TNew_calls _ _ _ s)) rfl ?_; rintro _ l2 (⟨rfl, hl2, hbad1⟩ | ⟨p1, rfl, hok1, rfl⟩)
      · rw [hl2]
        refine ol_q (wn_none rfl) (op_move (v := .tuple _) rfl) rfl ?_
        refine ol_q (wn_none rfl) (op_extract (v := .pointer _) rfl rfl) rfl ?_
        refine ol_q (wn_none rfl) (op_extract (v := .int _ _) rfl rfl) rfl ?_
        refine ol_q (wn_none rfl) (op_assign (v := .pointer _) rfl) rfl ?_
        refine ol_q (wn_none rfl) (op_assign (v := .int _ _) rfl) rfl ?_
        refine ol_nil_then ?_
        refine cd_seq ?_
        refine cd_sr ?_   -- 6
        refine ol_q (wn_none rfl) (op_move (v := .int _ _) rfl) rfl ?_
        refine ol_q (wn_none rfl) (op_ne rfl rfl) rfl ?_
        refine ol_nil_then ?_
        refine cd_cond rfl (fun hb3 => ?_) (fun hb3 => ?_)
        · have hp3 := hb3
          (try simp only [decide_eq_true_eq, decide_eq_false_iff_not, Bool.not_eq_true', Bool.not_eq_false', ne_eq, Decidable.not_not] at hp3)
          refine cd_sr ?_   -- 7
          refine ol_q (wn_none rfl) (op_move (v := .int _ _) rfl) rfl ?_
          refine ol_q (wn_none rfl) (op_lt rfl rfl) rfl ?_
          refine ol_q (wn_none rfl) (op_move (v := .bool _) rfl) rfl ?_
          refine ol_split 28 rfl (fun hb4 => ?_) (fun hb4 => ?_)
          · have hp4 := hb4
            (try simp only [decide_eq_true_eq, decide_eq_false_iff_not, Bool.not_eq_true', Bool.not_eq_false', ne_eq, Decidable.not_not] at hp4)
            refine ol_skip (wn_some rfl rfl rfl hb4 rfl) rfl ?_
            refine ol_skip (wn_some rfl rfl rfl hb4 rfl) rfl ?_
            refine ol_q (wn_none rfl) (op_pick_t (v := .bool _) rfl hb4 rfl) rfl ?_
            refine ol_q (wn_none rfl) (op_assign (v := .bool _) rfl) rfl ?_
            refine ol_nil_then ?_
            refine cd_ret ?_
            refine px_thenR ?_
            exact px_ret1 rfl (v := .bool _) rfl (fun _ s => s) ⟨congrArg Value.bool (by first | rfl | (simp; omega)), rfl⟩
          · have hp4 := hb4
            (try simp only [decide_eq_true_eq, decide_eq_false_iff_not, Bool.not_eq_true', Bool.not_eq_false', ne_eq, Decidable.not_not] at hp4)
            refine ol_q (wn_some rfl rfl rfl hb4 rfl) (op_move (v := .int _ _) rfl) rfl ?_
            refine ol_q (wn_some rfl rfl rfl hb4 rfl) (op_gt rfl rfl) rfl ?_
            refine ol_q (wn_none rfl) (op_pick_f (v := .bool _) rfl hb4 rfl) rfl ?_
            refine ol_q (wn_none rfl) (op_assign (v := .bool _) rfl) rfl ?_
            refine ol_nil_then ?_
            refine cd_ret ?_
            refine px_thenR ?_
            exact px_ret1 rfl (v := .bool _) rfl (fun _ s => s) ⟨congrArg Value.bool (by first | rfl | (simp; omega)), rfl⟩
        · have hp3 := hb3
          (try simp only [decide_eq_true_eq, decide_eq_false_iff_not, Bool.not_eq_true', Bool.not_eq_false', ne_eq, Decidable.not_not] at hp3)
          exact absurd hb3 (by decide)
      · have hob1 := hok1
        refine ol_q (wn_none rfl) (op_move (v := .tuple _) rfl) rfl ?_
        refine ol_q (wn_none rfl) (op_extract (v := .pointer _) rfl rfl) rfl ?_
        refine ol_q (wn_none rfl) (op_extract (v := .int _ _) rfl rfl) rfl ?_
        refine ol_q (wn_none rfl) (op_assign (v := .pointer _) rfl) rfl ?_
        refine ol_q (wn_none rfl) (op_assign (v := .int _ _) rfl) rfl ?_
        refine ol_nil_then ?_
        refine cd_seq ?_
        refine cd_sr ?_   -- 6
        refine ol_q (wn_none rfl) (op_move (v := .int _ _) rfl) rfl ?_
        refine ol_q (wn_none rfl) (op_ne rfl rfl) rfl ?_
        refine ol_nil_then ?_
        refine cd_cond rfl (fun hb5 => ?_) (fun hb5 => ?_)
        · have hp5 := hb5
          (try simp only [decide_eq_true_eq, decide_eq_false_iff_not, Bool.not_eq_true', Bool.not_eq_false', ne_eq, Decidable.not_not] at hp5)
          exact absurd hb5 (by decide)
        · have hp5 := hb5
          (try simp only [decide_eq_true_eq, decide_eq_false_iff_not, Bool.not_eq_true', Bool.not_eq_false', ne_eq, Decidable.not_not] at hp5)
          refine cd_skip ?_
          refine px_then ?_
          refine cd_seq ?_
          refine cd_sr ?_   -- 8
          refine ol_q (wn_none rfl) (op_assign (v := .int _ _) rfl) rfl ?_
          refine ol_nil_then ?_
          refine cd_block ?_
          have hst : (⟨chain (min 1 most.toNat), most⟩ : TreeS) = TreeS.new (nameR 0) 0 most := by rw [show min 1 most.toNat = 1 by omega]; rfl
          refine cd_loop2 (α := Nat) [(4, 4), (7, 9), (32, 52)] (fun x => [(7, .int .i64 (x : Int))]) (fun x => TreeObj p1 (⟨chain (min x most.toNat), most⟩ : TreeS) :: l) (fun x => 1 ≤ x ∧ (x : Int) ≤ blocks + 1) (fun x => (blocks + 1 - x).toNat) 1 ⟨Nat.le_refl _, by omega⟩ ⟨rfl, trivial⟩ (fun _ s => by rw [hst]; exact s) ?_
          rintro i ⟨hi1, hi2⟩ f; (try dsimp only at hi1 hi2 ⊢)
          refine cd_seq ?_
          refine cd_sr ?_   -- 9
          refine ol_q (wn_none rfl) (op_move (v := .int _ _) rfl) rfl ?_
          refine ol_q (wn_none rfl) (op_move (v := .int _ _) rfl) rfl ?_
          refine ol_q (wn_none rfl) (op_le rfl rfl) rfl ?_
          refine ol_nil_then ?_
          refine cd_cond rfl (fun hb6 => ?_) (fun hb6 => ?_)
          · have hp6 := hb6
            (try simp only [decide_eq_true_eq, decide_eq_false_iff_not, Bool.not_eq_true', Bool.not_eq_false', ne_eq, Decidable.not_not] at hp6)
            refine cd_skip ?_
            refine px_then ?_
            refine cd_seq ?_
            refine cd_block ?_
            refine cd_sr ?_   -- 11
            refine ol_q (wn_none rfl) (op_assign (v := .int _ _) rfl) rfl ?_
            refine ol_nil_then ?_
            refine cd_seq ?_
            refine cd_sr ?_   -- 12
            refine ol_q (wn_none rfl) (op_move (v := .int _ _) rfl) rfl ?_
            refine ol_q (wn_none rfl) (op_move (v := .int _ _) rfl) rfl ?_
            refine ol_q (wn_none rfl) (op_ge rfl rfl) rfl ?_
            refine ol_nil_then ?_
            refine cd_cond rfl (fun hb7 => ?_) (fun hb7 => ?_)
            · have hp7 := hb7
              (try simp only [decide_eq_true_eq, decide_eq_false_iff_not, Bool.not_eq_true', Bool.not_eq_false', ne_eq, Decidable.not_not] at hp7)
              obtain ⟨k, rfl⟩ : ∃ k : Nat, most = k := ⟨most.toNat, by omega⟩
              simp only [Int.toNat_natCast] at *
              have hmn : min i k = k := by omega
              have hn2 : min (i + 1) k = k := by omega
              have hmi : (if (k : Int) < (i : Int) then (k : Int) else (i : Int)) = (k : Int) := by split <;> omega
              have hfull := chain_full (n := k) (k := i) (most := k) (by omega) rfl (by omega) (by omega)
              refine cd_region ?_   -- 13
              refine ol_q (wn_none rfl) (op_assign (v := .int _ _) rfl) rfl ?_
              refine ol_nil ?_
              refine px_then ?_
              refine cd_sr ?_   -- 14
              refine ol_q (wn_none rfl) (op_move (v := .int _ _) rfl) rfl ?_
              refine ol_q (wn_none rfl) (op_move (v := .int _ _) rfl) rfl ?_
              refine ol_q (wn_none rfl) (op_min rfl rfl) rfl ?_
              refine ol_q (wn_none rfl) (op_sub rfl rfl (by omega) (by omega)) rfl ?_
              refine ol_i (wn_none rfl) (os_call cb_20 rfl (fun w s => Name_calls _  s )) rfl ?_; rintro _ l3 ⟨rfl, hl3⟩; simp only [hmi, hl3]
              refine ol_i (wn_none rfl) (os_alloc (cs := (rootC Root.zero).toArray) zB_30 (by kernel_rfl)) rfl ?_; rintro _ _ ⟨bx1, rfl, rfl⟩
              refine ol_iN (wn_none rfl) (os_storera _ ag_30 rfl rfl (Free.zero _)) ?_; rintro _ _ ⟨rfl, rfl⟩
              refine ol_nil_then ?_
              refine cd_pull1 ?_
              refine cd_seq ?_   -- 15
              refine cd_draw (M := [_]) mx [2, 5] (by kernel_rfl) ?_
              refine rg_q (wn_none rfl) (op_move (v := .pointer _) rfl) rfl rfl ?_
              refine rg_q (wn_none rfl) (op_move (v := .int _ _) rfl) rfl rfl ?_
              refine rg_i (wn_none rfl) (os_call cb_20 rfl (fun w s => Name_calls _  s )) rfl rfl ?_; rintro _ l ⟨rfl, rfl⟩; refine ⟨[_], rfl, ?_⟩
              refine rg_q (wn_none rfl) (op_lda (L := rootC _) 0 ag_30 rfl rfl (rootC_take' _) (by simp [rootC_len])) rfl rfl ?_
              refine rg_q (wn_none rfl) (op_move (v := .int _ _) rfl) rfl rfl ?_
              refine rg_i (wn_none rfl) (os_call cb_22 rfl (fun w s => Add_calls _ _ _ _ _  s )) rfl rfl ?_; rintro _ _ ⟨rfl, rfl⟩; simp only [hmn, hfull]; refine ⟨[_], rfl, ?_⟩
              refine rg_q (wn_none rfl) (op_move (v := .int _ _) rfl) rfl rfl ?_
              refine rg_q (wn_none rfl) (op_ne rfl rfl) rfl rfl ?_
              refine rg_nil_then1 ?_
              refine cd_cond rfl (fun hb8 => ?_) (fun hb8 => ?_)
              · have hp8 := hb8
                (try simp only [decide_eq_true_eq, decide_eq_false_iff_not, Bool.not_eq_true', Bool.not_eq_false', ne_eq, Decidable.not_not] at hp8)
                exact absurd hb8 (by simp)
              · have hp8 := hb8
                (try simp only [decide_eq_true_eq, decide_eq_false_iff_not, Bool.not_eq_true', Bool.not_eq_false', ne_eq, Decidable.not_not] at hp8)
                refine cd_skip ?_
                refine px_blockN ?_
                refine px_then ?_
                refine cd_region ?_   -- 10
                refine ol_q (wn_none rfl) (op_move (v := .int _ _) rfl) rfl ?_
                refine ol_q (wn_none rfl) (op_add rfl rfl (by omega) (by omega)) rfl ?_
                refine ol_q (wn_none rfl) (op_assign (v := .int _ _) rfl) rfl ?_
                refine ol_nil ?_
                refine px_loop2 (i + 1) ⟨by omega, by omega⟩ (by (try dsimp only); omega) ⟨congrArg (Value.int .i64) (by simp), trivial⟩ ?_ (fun _ s => (by rw [hn2]; exact (s.del 1)))
                repeat (first | exact kept_over | refine kept_upd rfl ?_ | refine kept_overS (by decide) ?_)
            · have hp7 := hb7
              (try simp only [decide_eq_true_eq, decide_eq_false_iff_not, Bool.not_eq_true', Bool.not_eq_false', ne_eq, Decidable.not_not] at hp7)
              obtain ⟨k, rfl⟩ : ∃ k : Nat, most = k := ⟨most.toNat, by omega⟩
              simp only [Int.toNat_natCast] at *
              have hmn : min i k = i := by omega
              have hn2 : min (i + 1) k = i + 1 := by omega
              have hmi : (if (k : Int) < (i : Int) then (k : Int) else (i : Int)) = (i : Int) := by split <;> omega
              have hfull := chain_add (n := i) (most := k) (by omega) (by omega) (by omega)
              refine cd_skip ?_
              refine px_then ?_
              refine cd_sr ?_   -- 14
              refine ol_q (wn_none rfl) (op_move (v := .int _ _) rfl) rfl ?_
              refine ol_q (wn_none rfl) (op_move (v := .int _ _) rfl) rfl ?_
              refine ol_q (wn_none rfl) (op_min rfl rfl) rfl ?_
              refine ol_q (wn_none rfl) (op_sub rfl rfl (by omega) (by omega)) rfl ?_
              refine ol_i (wn_none rfl) (os_call cb_20 rfl (fun w s => Name_calls _  s )) rfl ?_; rintro _ l3 ⟨rfl, hl3⟩; simp only [hmi, hl3]
              refine ol_i (wn_none rfl) (os_alloc (cs := (rootC Root.zero).toArray) zB_30 (by kernel_rfl)) rfl ?_; rintro _ _ ⟨bx2, rfl, rfl⟩
              refine ol_iN (wn_none rfl) (os_storera _ ag_30 rfl rfl (Free.zero _)) ?_; rintro _ _ ⟨rfl, rfl⟩
              refine ol_nil_then ?_
              refine cd_pull1 ?_
              refine cd_seq ?_   -- 15
              refine cd_draw (M := [_]) mx [2, 5] (by kernel_rfl) ?_
              refine rg_q (wn_none rfl) (op_move (v := .pointer _) rfl) rfl rfl ?_
              refine rg_q (wn_none rfl) (op_move (v := .int _ _) rfl) rfl rfl ?_
              refine rg_i (wn_none rfl) (os_call cb_20 rfl (fun w s => Name_calls _  s )) rfl rfl ?_; rintro _ l ⟨rfl, rfl⟩; refine ⟨[_], rfl, ?_⟩
              refine rg_q (wn_none rfl) (op_lda (L := rootC _) 0 ag_30 rfl rfl (rootC_take' _) (by simp [rootC_len])) rfl rfl ?_
              refine rg_q (wn_none rfl) (op_move (v := .int _ _) rfl) rfl rfl ?_
              refine rg_i (wn_none rfl) (os_call cb_22 rfl (fun w s => Add_calls _ _ _ _ _  s )) rfl rfl ?_; rintro _ _ ⟨rfl, rfl⟩; simp only [hmn, hfull]; refine ⟨[_], rfl, ?_⟩
              refine rg_q (wn_none rfl) (op_move (v := .int _ _) rfl) rfl rfl ?_
              refine rg_q (wn_none rfl) (op_ne rfl rfl) rfl rfl ?_
              refine rg_nil_then1 ?_
              refine cd_cond rfl (fun hb9 => ?_) (fun hb9 => ?_)
              · have hp9 := hb9
                (try simp only [decide_eq_true_eq, decide_eq_false_iff_not, Bool.not_eq_true', Bool.not_eq_false', ne_eq, Decidable.not_not] at hp9)
                exact absurd hb9 (by simp)
              · have hp9 := hb9
                (try simp only [decide_eq_true_eq, decide_eq_false_iff_not, Bool.not_eq_true', Bool.not_eq_false', ne_eq, Decidable.not_not] at hp9)
                refine cd_skip ?_
                refine px_blockN ?_
                refine px_then ?_
                refine cd_region ?_   -- 10
                refine ol_q (wn_none rfl) (op_move (v := .int _ _) rfl) rfl ?_
                refine ol_q (wn_none rfl) (op_add rfl rfl (by omega) (by omega)) rfl ?_
                refine ol_q (wn_none rfl) (op_assign (v := .int _ _) rfl) rfl ?_
                refine ol_nil ?_
                refine px_loop2 (i + 1) ⟨by omega, by omega⟩ (by (try dsimp only); omega) ⟨congrArg (Value.int .i64) (by simp), trivial⟩ ?_ (fun _ s => (by rw [hn2]; exact (s.del 1)))
                repeat (first | exact kept_over | refine kept_upd rfl ?_ | refine kept_overS (by decide) ?_)
          · have hp6 := hb6
            (try simp only [decide_eq_true_eq, decide_eq_false_iff_not, Bool.not_eq_true', Bool.not_eq_false', ne_eq, Decidable.not_not] at hp6)
            refine cd_exit ?_
            refine px_thenE ?_
            refine px_thenE ?_
            refine px_blockE ?_
            refine px_then ?_
            have hcl : (chain (min i most.toNat)).length = min i most.toNat := chain_len _
            refine cd_sr ?_   -- 17
            refine ol_q (wn_none rfl) (op_move (v := .pointer _) rfl) rfl ?_
            refine ol_i (wn_none rfl) (os_call cb_17 rfl (fun w s => Len_calls _ _  s )) rfl ?_; rintro _ _ ⟨rfl, rfl⟩
            refine ol_q (wn_none rfl) (op_move (v := .int _ _) rfl) rfl ?_
            refine ol_q (wn_none rfl) (op_add rfl rfl (by omega) (by omega)) rfl ?_
            refine ol_q (wn_none rfl) (op_move (v := .int _ _) rfl) rfl ?_
            refine ol_q (wn_none rfl) (op_min rfl rfl) rfl ?_
            refine ol_q (wn_none rfl) (op_eq rfl rfl) rfl ?_
            refine ol_q (wn_none rfl) (op_move (v := .bool _) rfl) rfl ?_
            refine ol_split 60 rfl (fun hb10 => ?_) (fun hb10 => ?_)
            · have hp10 := hb10
              (try simp only [decide_eq_true_eq, decide_eq_false_iff_not, Bool.not_eq_true', Bool.not_eq_false', ne_eq, Decidable.not_not] at hp10)
              refine ol_q (wn_some rfl rfl rfl hb10 rfl) (op_move (v := .pointer _) rfl) rfl ?_
              refine ol_i (wn_some rfl rfl rfl hb10 rfl) (os_call cb_23 rfl (fun w s => Room_calls _ _  s )) rfl ?_; rintro _ _ ⟨rfl, rfl⟩
              refine ol_q (wn_some rfl rfl rfl hb10 rfl) (op_move (v := .int _ _) rfl) rfl ?_
              refine ol_q (wn_some rfl rfl rfl hb10 rfl) (op_move (v := .int _ _) rfl) rfl ?_
              refine ol_q (wn_some rfl rfl rfl hb10 rfl) (op_sub rfl rfl (by omega) (by omega)) rfl ?_
              refine ol_q (wn_some rfl rfl rfl hb10 rfl) (op_sub rfl rfl (by omega) (by omega)) rfl ?_
              refine ol_q (wn_some rfl rfl rfl hb10 rfl) (op_max rfl rfl) rfl ?_
              refine ol_q (wn_some rfl rfl rfl hb10 rfl) (op_eq rfl rfl) rfl ?_
              refine ol_q (wn_none rfl) (op_pick_t (v := .bool _) rfl hb10 rfl) rfl ?_
              refine ol_q (wn_none rfl) (op_assign (v := .bool _) rfl) rfl ?_
              refine ol_nil_then ?_
              refine cd_ret ?_
              exact px_ret1 rfl (v := .bool _) rfl (fun _ s => (s.del 0)) ⟨congrArg Value.bool (by simp only [hcl]; apply decide_eq_true; split <;> omega), rfl⟩
            · have hp10 := hb10
              (try simp only [decide_eq_true_eq, decide_eq_false_iff_not, Bool.not_eq_true', Bool.not_eq_false', ne_eq, Decidable.not_not] at hp10)
              exact absurd hb10 (by rw [hcl]; simp; split <;> omega)
end Go.SL

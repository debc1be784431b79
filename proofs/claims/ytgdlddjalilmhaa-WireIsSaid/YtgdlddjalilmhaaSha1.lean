import Derived.Test.YtgdlddjalilmhaaSha
set_option linter.unusedVariables false
set_option linter.unusedSimpArgs false
namespace Go.SL
open Go.Proofs

set_option maxRecDepth 100000 in
set_option maxHeartbeats 1000000 in
theorem take_calls {w0 w : World} {l : List HProp} (p : Nat) (q : St) (bo : Option Addr) (bc : Nat) (bs : List UInt8) (hs : Sat w0 w ((Blk p (.cells (stC q).toArray 94 (0, 0))) :: l)) (hr : Rds w0 l encU8 bo bs) (hb : bs.length = 64) :
    Calls Try.prog 70 #[.pointer (some ⟨p, 0, none⟩), .slice bo bs.length bc] w (Ret w0 fun v l' => v = .tuple #[] ∧ l' = Blk p (.cells (stC ⟨blk8 q.w bs, q.rest, q.size⟩).toArray 94 (0, 0)) :: l) := by
  refine calls_enter Try.func70 rfl rfl rfl hs ?_
  refine cd_cut (α := Nat × Nat × Nat) [(4, 6), (13, 19)] (fun x => [(4, .pointer (some ⟨x.1, 0, none⟩)), (5, .pointer (some ⟨x.2.1, 0, none⟩)), (6, .pointer (some ⟨x.2.2, 0, none⟩))]) (fun x => Blk x.1 (.cells (wC (layM bs)).toArray 100 (0, 0)) :: Blk x.2.1 (.cells (wC K64).toArray 100 (0, 0)) :: Blk x.2.2 (.cells (wC q.w.1).toArray 91 (0, 0)) :: Blk p (.cells (stC q).toArray 94 (0, 0)) :: l) ?_ ?_
  ·
    -- 0
    refine cd_drawe (M := []) mx [1, 2, 7, 8, 9, 10, 11, 12] ?_
    -- 0
    refine et_quiet 0 (by kernel_rfl) rfl (by kernel_rfl) (wn_none rfl) (op_move (v := .slice _ _ _) rfl) rfl ?_
    -- 3
    refine et_quiet 3 (by kernel_rfl) rfl (by kernel_rfl) (wn_none rfl) (op_move (v := .pointer _) rfl) rfl ?_
    -- 4
    refine et_quiet 4 (by kernel_rfl) rfl (by kernel_rfl) (wn_none rfl) (op_nilck rfl) rfl ?_
    -- 5
    refine et_quiet 5 (by kernel_rfl) rfl (by kernel_rfl) (wn_none rfl) (op_field fld_94_0 rfl) rfl ?_
    -- 6
    refine et_quiet 6 (by kernel_rfl) rfl (by kernel_rfl) (wn_none rfl) (op_lda  0 ag_91 rfl rfl (stC_af0 _) (by simp [stC_len])) rfl ?_
    refine et_4 (i1 := 1) (i2 := 7) (i3 := 8) (i4 := 9) (by kernel_rfl) ?_ ?_ ?_ ?_
    · -- 1
      refine ei_i rfl rfl (wn_none rfl) (os_call cb_73 rfl (fun w s => lay_calls _ _ _  s (hr.cons _) (by assumption))) rfl ?_; rintro _ l ⟨rfl, rfl⟩; refine ⟨[], rfl, ?_⟩
      refine et_4 (i1 := 2) (i2 := 7) (i3 := 8) (i4 := 9) (by kernel_rfl) ?_ ?_ ?_ ?_
      · -- 2
        refine ei_i rfl rfl (wn_none rfl) (os_call cb_74 rfl (fun w s => keys_calls  s )) rfl ?_; rintro _ l ⟨rfl, rfl⟩; refine ⟨[], rfl, ?_⟩
        refine et_3 (i1 := 7) (i2 := 8) (i3 := 9) (by kernel_rfl) ?_ ?_ ?_
        · -- 7
          refine ei_i rfl rfl (wn_none rfl) (os_alloc (cs := (wC (List.replicate 64 0)).toArray) zB_100 (by kernel_rfl)) rfl ?_; rintro _ _ ⟨bx1, rfl, rfl⟩; refine ⟨[_], rfl, ?_⟩
          refine et_2 (i1 := 8) (i2 := 9) (by kernel_rfl) ?_ ?_
          · -- 8
            refine ei_i rfl rfl (wn_none rfl) (os_alloc (cs := (wC (List.replicate 64 0)).toArray) zB_100 (by kernel_rfl)) rfl ?_; rintro _ _ ⟨bx2, rfl, rfl⟩; refine ⟨[_, _], rfl, ?_⟩
            refine et_1 (i := 9) (by kernel_rfl) ?_
            refine ei_i rfl rfl (wn_none rfl) (os_alloc (cs := (wC (List.replicate 8 0)).toArray) zB_91 (by kernel_rfl)) rfl ?_; rintro _ _ ⟨bx3, rfl, rfl⟩; refine ⟨[_, _, _], rfl, ?_⟩
            refine et_1 (i := 10) (by kernel_rfl) ?_
            refine ei_iN rfl rfl (wn_none rfl) (os_pull2 (os_storew (wC _) ag_100 rfl rfl (by rw [wC_len]; exact layM_len bs) (wC_one _) (by simp [wC_len, w8C_len]) (Free.zero _))) ?_; rintro _ _ ⟨rfl, rfl⟩; refine ⟨[_, _, _], rfl, ?_⟩
            refine et_1 (i := 11) (by kernel_rfl) ?_
            refine ei_iN rfl rfl (wn_none rfl) (os_pull2 (os_storew (wC _) ag_100 rfl rfl (by rw [wC_len]; rfl) (wC_one _) (by simp [wC_len, w8C_len]) (Free.zero _))) ?_; rintro _ _ ⟨rfl, rfl⟩; refine ⟨[_, _, _], rfl, ?_⟩
            refine et_1 (i := 12) (by kernel_rfl) ?_
            refine ei_iN rfl rfl (wn_none rfl) (os_pull2 (os_storew (wC _) ag_91 rfl rfl (by rw [wC_len]; exact q.w.2) (wC_one _) (by simp [wC_len, w8C_len]) (Free.zero _))) ?_; rintro _ _ ⟨rfl, rfl⟩; refine ⟨[_, _, _], rfl, ?_⟩
            refine et_nil (by kernel_rfl) ?_
            refine px_cut (bx1, bx2, bx3) ⟨rfl, rfl, rfl, trivial⟩ ?_ (fun _ s => ((((s.pull 3).pull 1).pull 2).pull 3))
            repeat (first | exact kept_self | exact kept_over | refine kept_upd rfl ?_ | refine kept_overS (by decide) ?_)
          · -- 9
            refine ei_i rfl rfl (wn_none rfl) (os_alloc (cs := (wC (List.replicate 8 0)).toArray) zB_91 (by kernel_rfl)) rfl ?_; rintro _ _ ⟨bx4, rfl, rfl⟩; refine ⟨[_, _], rfl, ?_⟩
            refine et_1 (i := 8) (by kernel_rfl) ?_
            refine ei_i rfl rfl (wn_none rfl) (os_alloc (cs := (wC (List.replicate 64 0)).toArray) zB_100 (by kernel_rfl)) rfl ?_; rintro _ _ ⟨bx5, rfl, rfl⟩; refine ⟨[_, _, _], rfl, ?_⟩
            refine et_1 (i := 10) (by kernel_rfl) ?_
            refine ei_iN rfl rfl (wn_none rfl) (os_pull2 (os_storew (wC _) ag_100 rfl rfl (by rw [wC_len]; exact layM_len bs) (wC_one _) (by simp [wC_len, w8C_len]) (Free.zero _))) ?_; rintro _ _ ⟨rfl, rfl⟩; refine ⟨[_, _, _], rfl, ?_⟩
            refine et_1 (i := 11) (by kernel_rfl) ?_
            refine ei_iN rfl rfl (wn_none rfl) (os_pull1 (os_storew (wC _) ag_100 rfl rfl (by rw [wC_len]; rfl) (wC_one _) (by simp [wC_len, w8C_len]) (Free.zero _))) ?_; rintro _ _ ⟨rfl, rfl⟩; refine ⟨[_, _, _], rfl, ?_⟩
            refine et_1 (i := 12) (by kernel_rfl) ?_
            refine ei_iN rfl rfl (wn_none rfl) (os_pull2 (os_storew (wC _) ag_91 rfl rfl (by rw [wC_len]; exact q.w.2) (wC_one _) (by simp [wC_len, w8C_len]) (Free.zero _))) ?_; rintro _ _ ⟨rfl, rfl⟩; refine ⟨[_, _, _], rfl, ?_⟩
            refine et_nil (by kernel_rfl) ?_
            refine px_cut (bx1, bx5, bx4) ⟨rfl, rfl, rfl, trivial⟩ ?_ (fun _ s => ((((s.pull 3).pull 1).pull 2).pull 3))
            repeat (first | exact kept_self | exact kept_over | refine kept_upd rfl ?_ | refine kept_overS (by decide) ?_)
        · -- 8
          refine ei_i rfl rfl (wn_none rfl) (os_alloc (cs := (wC (List.replicate 64 0)).toArray) zB_100 (by kernel_rfl)) rfl ?_; rintro _ _ ⟨bx6, rfl, rfl⟩; refine ⟨[_], rfl, ?_⟩
          refine et_2 (i1 := 7) (i2 := 9) (by kernel_rfl) ?_ ?_
          · -- 7
            refine ei_i rfl rfl (wn_none rfl) (os_alloc (cs := (wC (List.replicate 64 0)).toArray) zB_100 (by kernel_rfl)) rfl ?_; rintro _ _ ⟨bx7, rfl, rfl⟩; refine ⟨[_, _], rfl, ?_⟩
            refine et_1 (i := 9) (by kernel_rfl) ?_
            refine ei_i rfl rfl (wn_none rfl) (os_alloc (cs := (wC (List.replicate 8 0)).toArray) zB_91 (by kernel_rfl)) rfl ?_; rintro _ _ ⟨bx8, rfl, rfl⟩; refine ⟨[_, _, _], rfl, ?_⟩
            refine et_1 (i := 10) (by kernel_rfl) ?_
            refine ei_iN rfl rfl (wn_none rfl) (os_pull1 (os_storew (wC _) ag_100 rfl rfl (by rw [wC_len]; exact layM_len bs) (wC_one _) (by simp [wC_len, w8C_len]) (Free.zero _))) ?_; rintro _ _ ⟨rfl, rfl⟩; refine ⟨[_, _, _], rfl, ?_⟩
            refine et_1 (i := 11) (by kernel_rfl) ?_
            refine ei_iN rfl rfl (wn_none rfl) (os_pull2 (os_storew (wC _) ag_100 rfl rfl (by rw [wC_len]; rfl) (wC_one _) (by simp [wC_len, w8C_len]) (Free.zero _))) ?_; rintro _ _ ⟨rfl, rfl⟩; refine ⟨[_, _, _], rfl, ?_⟩
            refine et_1 (i := 12) (by kernel_rfl) ?_
            refine ei_iN rfl rfl (wn_none rfl) (os_pull2 (os_storew (wC _) ag_91 rfl rfl (by rw [wC_len]; exact q.w.2) (wC_one _) (by simp [wC_len, w8C_len]) (Free.zero _))) ?_; rintro _ _ ⟨rfl, rfl⟩; refine ⟨[_, _, _], rfl, ?_⟩
            refine et_nil (by kernel_rfl) ?_
            refine px_cut (bx7, bx6, bx8) ⟨rfl, rfl, rfl, trivial⟩ ?_ (fun _ s => ((((s.pull 3).pull 1).pull 2).pull 3))
            repeat (first | exact kept_self | exact kept_over | refine kept_upd rfl ?_ | refine kept_overS (by decide) ?_)
          · -- 9
            refine ei_i rfl rfl (wn_none rfl) (os_alloc (cs := (wC (List.replicate 8 0)).toArray) zB_91 (by kernel_rfl)) rfl ?_; rintro _ _ ⟨bx9, rfl, rfl⟩; refine ⟨[_, _], rfl, ?_⟩
            refine et_1 (i := 7) (by kernel_rfl) ?_
            refine ei_i rfl rfl (wn_none rfl) (os_alloc (cs := (wC (List.replicate 64 0)).toArray) zB_100 (by kernel_rfl)) rfl ?_; rintro _ _ ⟨bx10, rfl, rfl⟩; refine ⟨[_, _, _], rfl, ?_⟩
            refine et_1 (i := 10) (by kernel_rfl) ?_
            refine ei_iN rfl rfl (wn_none rfl) (os_storew (wC _) ag_100 rfl rfl (by rw [wC_len]; exact layM_len bs) (wC_one _) (by simp [wC_len, w8C_len]) (Free.zero _)) ?_; rintro _ _ ⟨rfl, rfl⟩; refine ⟨[_, _, _], rfl, ?_⟩
            refine et_1 (i := 11) (by kernel_rfl) ?_
            refine ei_iN rfl rfl (wn_none rfl) (os_pull2 (os_storew (wC _) ag_100 rfl rfl (by rw [wC_len]; rfl) (wC_one _) (by simp [wC_len, w8C_len]) (Free.zero _))) ?_; rintro _ _ ⟨rfl, rfl⟩; refine ⟨[_, _, _], rfl, ?_⟩
            refine et_1 (i := 12) (by kernel_rfl) ?_
            refine ei_iN rfl rfl (wn_none rfl) (os_pull2 (os_storew (wC _) ag_91 rfl rfl (by rw [wC_len]; exact q.w.2) (wC_one _) (by simp [wC_len, w8C_len]) (Free.zero _))) ?_; rintro _ _ ⟨rfl, rfl⟩; refine ⟨[_, _, _], rfl, ?_⟩
            refine et_nil (by kernel_rfl) ?_
            refine px_cut (bx10, bx6, bx9) ⟨rfl, rfl, rfl, trivial⟩ ?_ (fun _ s => ((((s.pull 3).pull 1).pull 2).pull 3))
            repeat (first | exact kept_self | exact kept_over | refine kept_upd rfl ?_ | refine kept_overS (by decide) ?_)
        · -- 9
          refine ei_i rfl rfl (wn_none rfl) (os_alloc (cs := (wC (List.replicate 8 0)).toArray) zB_91 (by kernel_rfl)) rfl ?_; rintro _ _ ⟨bx11, rfl, rfl⟩; refine ⟨[_], rfl, ?_⟩
          refine et_2 (i1 := 7) (i2 := 8) (by kernel_rfl) ?_ ?_
          · -- 7
            refine ei_i rfl rfl (wn_none rfl) (os_alloc (cs := (wC (List.replicate 64 0)).toArray) zB_100 (by kernel_rfl)) rfl ?_; rintro _ _ ⟨bx12, rfl, rfl⟩; refine ⟨[_, _], rfl, ?_⟩
            refine et_1 (i := 8) (by kernel_rfl) ?_
            refine ei_i rfl rfl (wn_none rfl) (os_alloc (cs := (wC (List.replicate 64 0)).toArray) zB_100 (by kernel_rfl)) rfl ?_; rintro _ _ ⟨bx13, rfl, rfl⟩; refine ⟨[_, _, _], rfl, ?_⟩
            refine et_1 (i := 10) (by kernel_rfl) ?_
            refine ei_iN rfl rfl (wn_none rfl) (os_pull1 (os_storew (wC _) ag_100 rfl rfl (by rw [wC_len]; exact layM_len bs) (wC_one _) (by simp [wC_len, w8C_len]) (Free.zero _))) ?_; rintro _ _ ⟨rfl, rfl⟩; refine ⟨[_, _, _], rfl, ?_⟩
            refine et_1 (i := 11) (by kernel_rfl) ?_
            refine ei_iN rfl rfl (wn_none rfl) (os_pull1 (os_storew (wC _) ag_100 rfl rfl (by rw [wC_len]; rfl) (wC_one _) (by simp [wC_len, w8C_len]) (Free.zero _))) ?_; rintro _ _ ⟨rfl, rfl⟩; refine ⟨[_, _, _], rfl, ?_⟩
            refine et_1 (i := 12) (by kernel_rfl) ?_
            refine ei_iN rfl rfl (wn_none rfl) (os_pull2 (os_storew (wC _) ag_91 rfl rfl (by rw [wC_len]; exact q.w.2) (wC_one _) (by simp [wC_len, w8C_len]) (Free.zero _))) ?_; rintro _ _ ⟨rfl, rfl⟩; refine ⟨[_, _, _], rfl, ?_⟩
            refine et_nil (by kernel_rfl) ?_
            refine px_cut (bx12, bx13, bx11) ⟨rfl, rfl, rfl, trivial⟩ ?_ (fun _ s => ((((s.pull 3).pull 1).pull 2).pull 3))
            repeat (first | exact kept_self | exact kept_over | refine kept_upd rfl ?_ | refine kept_overS (by decide) ?_)
          · -- 8
            refine ei_i rfl rfl (wn_none rfl) (os_alloc (cs := (wC (List.replicate 64 0)).toArray) zB_100 (by kernel_rfl)) rfl ?_; rintro _ _ ⟨bx14, rfl, rfl⟩; refine ⟨[_, _], rfl, ?_⟩
            refine et_1 (i := 7) (by kernel_rfl) ?_
            refine ei_i rfl rfl (wn_none rfl) (os_alloc (cs := (wC (List.replicate 64 0)).toArray) zB_100 (by kernel_rfl)) rfl ?_; rintro _ _ ⟨bx15, rfl, rfl⟩; refine ⟨[_, _, _], rfl, ?_⟩
            refine et_1 (i := 10) (by kernel_rfl) ?_
            refine ei_iN rfl rfl (wn_none rfl) (os_storew (wC _) ag_100 rfl rfl (by rw [wC_len]; exact layM_len bs) (wC_one _) (by simp [wC_len, w8C_len]) (Free.zero _)) ?_; rintro _ _ ⟨rfl, rfl⟩; refine ⟨[_, _, _], rfl, ?_⟩
            refine et_1 (i := 11) (by kernel_rfl) ?_
            refine ei_iN rfl rfl (wn_none rfl) (os_pull1 (os_storew (wC _) ag_100 rfl rfl (by rw [wC_len]; rfl) (wC_one _) (by simp [wC_len, w8C_len]) (Free.zero _))) ?_; rintro _ _ ⟨rfl, rfl⟩; refine ⟨[_, _, _], rfl, ?_⟩
            refine et_1 (i := 12) (by kernel_rfl) ?_
            refine ei_iN rfl rfl (wn_none rfl) (os_pull2 (os_storew (wC _) ag_91 rfl rfl (by rw [wC_len]; exact q.w.2) (wC_one _) (by simp [wC_len, w8C_len]) (Free.zero _))) ?_; rintro _ _ ⟨rfl, rfl⟩; refine ⟨[_, _, _], rfl, ?_⟩
            refine et_nil (by kernel_rfl) ?_
            refine px_cut (bx15, bx14, bx11) ⟨rfl, rfl, rfl, trivial⟩ ?_ (fun _ s => ((((s.pull 3).pull 1).pull 2).pull 3))
            repeat (first | exact kept_self | exact kept_over | refine kept_upd rfl ?_ | refine kept_overS (by decide) ?_)
      · -- 7
        refine ei_i rfl rfl (wn_none rfl) (os_alloc (cs := (wC (List.replicate 64 0)).toArray) zB_100 (by kernel_rfl)) rfl ?_; rintro _ _ ⟨bx16, rfl, rfl⟩; refine ⟨[_], rfl, ?_⟩
        refine et_3 (i1 := 2) (i2 := 8) (i3 := 9) (by kernel_rfl) ?_ ?_ ?_
        · -- 2
          refine ei_i rfl rfl (wn_none rfl) (os_call cb_74 rfl (fun w s => keys_calls  s )) rfl ?_; rintro _ l ⟨rfl, rfl⟩; refine ⟨[_], rfl, ?_⟩
          refine et_2 (i1 := 8) (i2 := 9) (by kernel_rfl) ?_ ?_
          · -- 8
            refine ei_i rfl rfl (wn_none rfl) (os_alloc (cs := (wC (List.replicate 64 0)).toArray) zB_100 (by kernel_rfl)) rfl ?_; rintro _ _ ⟨bx17, rfl, rfl⟩; refine ⟨[_, _], rfl, ?_⟩
            refine et_1 (i := 9) (by kernel_rfl) ?_
            refine ei_i rfl rfl (wn_none rfl) (os_alloc (cs := (wC (List.replicate 8 0)).toArray) zB_91 (by kernel_rfl)) rfl ?_; rintro _ _ ⟨bx18, rfl, rfl⟩; refine ⟨[_, _, _], rfl, ?_⟩
            refine et_1 (i := 10) (by kernel_rfl) ?_
            refine ei_iN rfl rfl (wn_none rfl) (os_pull2 (os_storew (wC _) ag_100 rfl rfl (by rw [wC_len]; exact layM_len bs) (wC_one _) (by simp [wC_len, w8C_len]) (Free.zero _))) ?_; rintro _ _ ⟨rfl, rfl⟩; refine ⟨[_, _, _], rfl, ?_⟩
            refine et_1 (i := 11) (by kernel_rfl) ?_
            refine ei_iN rfl rfl (wn_none rfl) (os_pull2 (os_storew (wC _) ag_100 rfl rfl (by rw [wC_len]; rfl) (wC_one _) (by simp [wC_len, w8C_len]) (Free.zero _))) ?_; rintro _ _ ⟨rfl, rfl⟩; refine ⟨[_, _, _], rfl, ?_⟩
            refine et_1 (i := 12) (by kernel_rfl) ?_
            refine ei_iN rfl rfl (wn_none rfl) (os_pull2 (os_storew (wC _) ag_91 rfl rfl (by rw [wC_len]; exact q.w.2) (wC_one _) (by simp [wC_len, w8C_len]) (Free.zero _))) ?_; rintro _ _ ⟨rfl, rfl⟩; refine ⟨[_, _, _], rfl, ?_⟩
            refine et_nil (by kernel_rfl) ?_
            refine px_cut (bx16, bx17, bx18) ⟨rfl, rfl, rfl, trivial⟩ ?_ (fun _ s => ((((s.pull 3).pull 1).pull 2).pull 3))
            repeat (first | exact kept_self | exact kept_over | refine kept_upd rfl ?_ | refine kept_overS (by decide) ?_)
          · -- 9
            refine ei_i rfl rfl (wn_none rfl) (os_alloc (cs := (wC (List.replicate 8 0)).toArray) zB_91 (by kernel_rfl)) rfl ?_; rintro _ _ ⟨bx19, rfl, rfl⟩; refine ⟨[_, _], rfl, ?_⟩
            refine et_1 (i := 8) (by kernel_rfl) ?_
            refine ei_i rfl rfl (wn_none rfl) (os_alloc (cs := (wC (List.replicate 64 0)).toArray) zB_100 (by kernel_rfl)) rfl ?_; rintro _ _ ⟨bx20, rfl, rfl⟩; refine ⟨[_, _, _], rfl, ?_⟩
            refine et_1 (i := 10) (by kernel_rfl) ?_
            refine ei_iN rfl rfl (wn_none rfl) (os_pull2 (os_storew (wC _) ag_100 rfl rfl (by rw [wC_len]; exact layM_len bs) (wC_one _) (by simp [wC_len, w8C_len]) (Free.zero _))) ?_; rintro _ _ ⟨rfl, rfl⟩; refine ⟨[_, _, _], rfl, ?_⟩
            refine et_1 (i := 11) (by kernel_rfl) ?_
            refine ei_iN rfl rfl (wn_none rfl) (os_pull1 (os_storew (wC _) ag_100 rfl rfl (by rw [wC_len]; rfl) (wC_one _) (by simp [wC_len, w8C_len]) (Free.zero _))) ?_; rintro _ _ ⟨rfl, rfl⟩; refine ⟨[_, _, _], rfl, ?_⟩
            refine et_1 (i := 12) (by kernel_rfl) ?_
            refine ei_iN rfl rfl (wn_none rfl) (os_pull2 (os_storew (wC _) ag_91 rfl rfl (by rw [wC_len]; exact q.w.2) (wC_one _) (by simp [wC_len, w8C_len]) (Free.zero _))) ?_; rintro _ _ ⟨rfl, rfl⟩; refine ⟨[_, _, _], rfl, ?_⟩
            refine et_nil (by kernel_rfl) ?_
            refine px_cut (bx16, bx20, bx19) ⟨rfl, rfl, rfl, trivial⟩ ?_ (fun _ s => ((((s.pull 3).pull 1).pull 2).pull 3))
            repeat (first | exact kept_self | exact kept_over | refine kept_upd rfl ?_ | refine kept_overS (by decide) ?_)
        · -- 8
          refine ei_i rfl rfl (wn_none rfl) (os_alloc (cs := (wC (List.replicate 64 0)).toArray) zB_100 (by kernel_rfl)) rfl ?_; rintro _ _ ⟨bx21, rfl, rfl⟩; refine ⟨[_, _], rfl, ?_⟩
          refine et_2 (i1 := 2) (i2 := 9) (by kernel_rfl) ?_ ?_
          · -- 2
            refine ei_i rfl rfl (wn_none rfl) (os_call cb_74 rfl (fun w s => keys_calls  s )) rfl ?_; rintro _ l ⟨rfl, rfl⟩; refine ⟨[_, _], rfl, ?_⟩
            refine et_1 (i := 9) (by kernel_rfl) ?_
            refine ei_i rfl rfl (wn_none rfl) (os_alloc (cs := (wC (List.replicate 8 0)).toArray) zB_91 (by kernel_rfl)) rfl ?_; rintro _ _ ⟨bx22, rfl, rfl⟩; refine ⟨[_, _, _], rfl, ?_⟩
            refine et_1 (i := 10) (by kernel_rfl) ?_
            refine ei_iN rfl rfl (wn_none rfl) (os_pull2 (os_storew (wC _) ag_100 rfl rfl (by rw [wC_len]; exact layM_len bs) (wC_one _) (by simp [wC_len, w8C_len]) (Free.zero _))) ?_; rintro _ _ ⟨rfl, rfl⟩; refine ⟨[_, _, _], rfl, ?_⟩
            refine et_1 (i := 11) (by kernel_rfl) ?_
            refine ei_iN rfl rfl (wn_none rfl) (os_pull2 (os_storew (wC _) ag_100 rfl rfl (by rw [wC_len]; rfl) (wC_one _) (by simp [wC_len, w8C_len]) (Free.zero _))) ?_; rintro _ _ ⟨rfl, rfl⟩; refine ⟨[_, _, _], rfl, ?_⟩
            refine et_1 (i := 12) (by kernel_rfl) ?_
            refine ei_iN rfl rfl (wn_none rfl) (os_pull2 (os_storew (wC _) ag_91 rfl rfl (by rw [wC_len]; exact q.w.2) (wC_one _) (by simp [wC_len, w8C_len]) (Free.zero _))) ?_; rintro _ _ ⟨rfl, rfl⟩; refine ⟨[_, _, _], rfl, ?_⟩
            refine et_nil (by kernel_rfl) ?_
            refine px_cut (bx16, bx21, bx22) ⟨rfl, rfl, rfl, trivial⟩ ?_ (fun _ s => ((((s.pull 3).pull 1).pull 2).pull 3))
            repeat (first | exact kept_self | exact kept_over | refine kept_upd rfl ?_ | refine kept_overS (by decide) ?_)
          · -- 9
            refine ei_i rfl rfl (wn_none rfl) (os_alloc (cs := (wC (List.replicate 8 0)).toArray) zB_91 (by kernel_rfl)) rfl ?_; rintro _ _ ⟨bx23, rfl, rfl⟩; refine ⟨[_, _, _], rfl, ?_⟩
            refine et_1 (i := 2) (by kernel_rfl) ?_
            refine ei_i rfl rfl (wn_none rfl) (os_call cb_74 rfl (fun w s => keys_calls  s )) rfl ?_; rintro _ l ⟨rfl, rfl⟩; refine ⟨[_, _, _], rfl, ?_⟩
            refine et_1 (i := 10) (by kernel_rfl) ?_
            refine ei_iN rfl rfl (wn_none rfl) (os_pull2 (os_storew (wC _) ag_100 rfl rfl (by rw [wC_len]; exact layM_len bs) (wC_one _) (by simp [wC_len, w8C_len]) (Free.zero _))) ?_; rintro _ _ ⟨rfl, rfl⟩; refine ⟨[_, _, _], rfl, ?_⟩
            refine et_1 (i := 11) (by kernel_rfl) ?_
            refine ei_iN rfl rfl (wn_none rfl) (os_pull2 (os_storew (wC _) ag_100 rfl rfl (by rw [wC_len]; rfl) (wC_one _) (by simp [wC_len, w8C_len]) (Free.zero _))) ?_; rintro _ _ ⟨rfl, rfl⟩; refine ⟨[_, _, _], rfl, ?_⟩
            refine et_1 (i := 12) (by kernel_rfl) ?_
            refine ei_iN rfl rfl (wn_none rfl) (os_pull2 (os_storew (wC _) ag_91 rfl rfl (by rw [wC_len]; exact q.w.2) (wC_one _) (by simp [wC_len, w8C_len]) (Free.zero _))) ?_; rintro _ _ ⟨rfl, rfl⟩; refine ⟨[_, _, _], rfl, ?_⟩
            refine et_nil (by kernel_rfl) ?_
            refine px_cut (bx16, bx21, bx23) ⟨rfl, rfl, rfl, trivial⟩ ?_ (fun _ s => ((((s.pull 3).pull 1).pull 2).pull 3))
            repeat (first | exact kept_self | exact kept_over | refine kept_upd rfl ?_ | refine kept_overS (by decide) ?_)
        · -- 9
          refine ei_i rfl rfl (wn_none rfl) (os_alloc (cs := (wC (List.replicate 8 0)).toArray) zB_91 (by kernel_rfl)) rfl ?_; rintro _ _ ⟨bx24, rfl, rfl⟩; refine ⟨[_, _], rfl, ?_⟩
          refine et_2 (i1 := 2) (i2 := 8) (by kernel_rfl) ?_ ?_
          · -- 2
            refine ei_i rfl rfl (wn_none rfl) (os_call cb_74 rfl (fun w s => keys_calls  s )) rfl ?_; rintro _ l ⟨rfl, rfl⟩; refine ⟨[_, _], rfl, ?_⟩
            refine et_1 (i := 8) (by kernel_rfl) ?_
            refine ei_i rfl rfl (wn_none rfl) (os_alloc (cs := (wC (List.replicate 64 0)).toArray) zB_100 (by kernel_rfl)) rfl ?_; rintro _ _ ⟨bx25, rfl, rfl⟩; refine ⟨[_, _, _], rfl, ?_⟩
            refine et_1 (i := 10) (by kernel_rfl) ?_
            refine ei_iN rfl rfl (wn_none rfl) (os_pull2 (os_storew (wC _) ag_100 rfl rfl (by rw [wC_len]; exact layM_len bs) (wC_one _) (by simp [wC_len, w8C_len]) (Free.zero _))) ?_; rintro _ _ ⟨rfl, rfl⟩; refine ⟨[_, _, _], rfl, ?_⟩
            refine et_1 (i := 11) (by kernel_rfl) ?_
            refine ei_iN rfl rfl (wn_none rfl) (os_pull1 (os_storew (wC _) ag_100 rfl rfl (by rw [wC_len]; rfl) (wC_one _) (by simp [wC_len, w8C_len]) (Free.zero _))) ?_; rintro _ _ ⟨rfl, rfl⟩; refine ⟨[_, _, _], rfl, ?_⟩
            refine et_1 (i := 12) (by kernel_rfl) ?_
            refine ei_iN rfl rfl (wn_none rfl) (os_pull2 (os_storew (wC _) ag_91 rfl rfl (by rw [wC_len]; exact q.w.2) (wC_one _) (by simp [wC_len, w8C_len]) (Free.zero _))) ?_; rintro _ _ ⟨rfl, rfl⟩; refine ⟨[_, _, _], rfl, ?_⟩
            refine et_nil (by kernel_rfl) ?_
            refine px_cut (bx16, bx25, bx24) ⟨rfl, rfl, rfl, trivial⟩ ?_ (fun _ s => ((((s.pull 3).pull 1).pull 2).pull 3))
            repeat (first | exact kept_self | exact kept_over | refine kept_upd rfl ?_ | refine kept_overS (by decide) ?_)
          · -- 8
            refine ei_i rfl rfl (wn_none rfl) (os_alloc (cs := (wC (List.replicate 64 0)).toArray) zB_100 (by kernel_rfl)) rfl ?_; rintro _ _ ⟨bx26, rfl, rfl⟩; refine ⟨[_, _, _], rfl, ?_⟩
            refine et_1 (i := 2) (by kernel_rfl) ?_
            refine ei_i rfl rfl (wn_none rfl) (os_call cb_74 rfl (fun w s => keys_calls  s )) rfl ?_; rintro _ l ⟨rfl, rfl⟩; refine ⟨[_, _, _], rfl, ?_⟩
            refine et_1 (i := 10) (by kernel_rfl) ?_
            refine ei_iN rfl rfl (wn_none rfl) (os_pull2 (os_storew (wC _) ag_100 rfl rfl (by rw [wC_len]; exact layM_len bs) (wC_one _) (by simp [wC_len, w8C_len]) (Free.zero _))) ?_; rintro _ _ ⟨rfl, rfl⟩; refine ⟨[_, _, _], rfl, ?_⟩
            refine et_1 (i := 11) (by kernel_rfl) ?_
            refine ei_iN rfl rfl (wn_none rfl) (os_pull1 (os_storew (wC _) ag_100 rfl rfl (by rw [wC_len]; rfl) (wC_one _) (by simp [wC_len, w8C_len]) (Free.zero _))) ?_; rintro _ _ ⟨rfl, rfl⟩; refine ⟨[_, _, _], rfl, ?_⟩
            refine et_1 (i := 12) (by kernel_rfl) ?_
            refine ei_iN rfl rfl (wn_none rfl) (os_pull2 (os_storew (wC _) ag_91 rfl rfl (by rw [wC_len]; exact q.w.2) (wC_one _) (by simp [wC_len, w8C_len]) (Free.zero _))) ?_; rintro _ _ ⟨rfl, rfl⟩; refine ⟨[_, _, _], rfl, ?_⟩
            refine et_nil (by kernel_rfl) ?_
            refine px_cut (bx16, bx26, bx24) ⟨rfl, rfl, rfl, trivial⟩ ?_ (fun _ s => ((((s.pull 3).pull 1).pull 2).pull 3))
            repeat (first | exact kept_self | exact kept_over | refine kept_upd rfl ?_ | refine kept_overS (by decide) ?_)
      · -- 8
        refine ei_i rfl rfl (wn_none rfl) (os_alloc (cs := (wC (List.replicate 64 0)).toArray) zB_100 (by kernel_rfl)) rfl ?_; rintro _ _ ⟨bx27, rfl, rfl⟩; refine ⟨[_], rfl, ?_⟩
        refine et_3 (i1 := 2) (i2 := 7) (i3 := 9) (by kernel_rfl) ?_ ?_ ?_
        · -- 2
          refine ei_i rfl rfl (wn_none rfl) (os_call cb_74 rfl (fun w s => keys_calls  s )) rfl ?_; rintro _ l ⟨rfl, rfl⟩; refine ⟨[_], rfl, ?_⟩
          refine et_2 (i1 := 7) (i2 := 9) (by kernel_rfl) ?_ ?_
          · -- 7
            refine ei_i rfl rfl (wn_none rfl) (os_alloc (cs := (wC (List.replicate 64 0)).toArray) zB_100 (by kernel_rfl)) rfl ?_; rintro _ _ ⟨bx28, rfl, rfl⟩; refine ⟨[_, _], rfl, ?_⟩
            refine et_1 (i := 9) (by kernel_rfl) ?_
            refine ei_i rfl rfl (wn_none rfl) (os_alloc (cs := (wC (List.replicate 8 0)).toArray) zB_91 (by kernel_rfl)) rfl ?_; rintro _ _ ⟨bx29, rfl, rfl⟩; refine ⟨[_, _, _], rfl, ?_⟩
            refine et_1 (i := 10) (by kernel_rfl) ?_
            refine ei_iN rfl rfl (wn_none rfl) (os_pull1 (os_storew (wC _) ag_100 rfl rfl (by rw [wC_len]; exact layM_len bs) (wC_one _) (by simp [wC_len, w8C_len]) (Free.zero _))) ?_; rintro _ _ ⟨rfl, rfl⟩; refine ⟨[_, _, _], rfl, ?_⟩
            refine et_1 (i := 11) (by kernel_rfl) ?_
            refine ei_iN rfl rfl (wn_none rfl) (os_pull2 (os_storew (wC _) ag_100 rfl rfl (by rw [wC_len]; rfl) (wC_one _) (by simp [wC_len, w8C_len]) (Free.zero _))) ?_; rintro _ _ ⟨rfl, rfl⟩; refine ⟨[_, _, _], rfl, ?_⟩
            refine et_1 (i := 12) (by kernel_rfl) ?_
            refine ei_iN rfl rfl (wn_none rfl) (os_pull2 (os_storew (wC _) ag_91 rfl rfl (by rw [wC_len]; exact q.w.2) (wC_one _) (by simp [wC_len, w8C_len]) (Free.zero _))) ?_; rintro _ _ ⟨rfl, rfl⟩; refine ⟨[_, _, _], rfl, ?_⟩
            refine et_nil (by kernel_rfl) ?_
            refine px_cut (bx28, bx27, bx29) ⟨rfl, rfl, rfl, trivial⟩ ?_ (fun _ s => ((((s.pull 3).pull 1).pull 2).pull 3))
            repeat (first | exact kept_self | exact kept_over | refine kept_upd rfl ?_ | refine kept_overS (by decide) ?_)
          · -- 9
            refine ei_i rfl rfl (wn_none rfl) (os_alloc (cs := (wC (List.replicate 8 0)).toArray) zB_91 (by kernel_rfl)) rfl ?_; rintro _ _ ⟨bx30, rfl, rfl⟩; refine ⟨[_, _], rfl, ?_⟩
            refine et_1 (i := 7) (by kernel_rfl) ?_
            refine ei_i rfl rfl (wn_none rfl) (os_alloc (cs := (wC (List.replicate 64 0)).toArray) zB_100 (by kernel_rfl)) rfl ?_; rintro _ _ ⟨bx31, rfl, rfl⟩; refine ⟨[_, _, _], rfl, ?_⟩
            refine et_1 (i := 10) (by kernel_rfl) ?_
            refine ei_iN rfl rfl (wn_none rfl) (os_storew (wC _) ag_100 rfl rfl (by rw [wC_len]; exact layM_len bs) (wC_one _) (by simp [wC_len, w8C_len]) (Free.zero _)) ?_; rintro _ _ ⟨rfl, rfl⟩; refine ⟨[_, _, _], rfl, ?_⟩
            refine et_1 (i := 11) (by kernel_rfl) ?_
            refine ei_iN rfl rfl (wn_none rfl) (os_pull2 (os_storew (wC _) ag_100 rfl rfl (by rw [wC_len]; rfl) (wC_one _) (by simp [wC_len, w8C_len]) (Free.zero _))) ?_; rintro _ _ ⟨rfl, rfl⟩; refine ⟨[_, _, _], rfl, ?_⟩
            refine et_1 (i := 12) (by kernel_rfl) ?_
            refine ei_iN rfl rfl (wn_none rfl) (os_pull2 (os_storew (wC _) ag_91 rfl rfl (by rw [wC_len]; exact q.w.2) (wC_one _) (by simp [wC_len, w8C_len]) (Free.zero _))) ?_; rintro _ _ ⟨rfl, rfl⟩; refine ⟨[_, _, _], rfl, ?_⟩
            refine et_nil (by kernel_rfl) ?_
            refine px_cut (bx31, bx27, bx30) ⟨rfl, rfl, rfl, trivial⟩ ?_ (fun _ s => ((((s.pull 3).pull 1).pull 2).pull 3))
            repeat (first | exact kept_self | exact kept_over | refine kept_upd rfl ?_ | refine kept_overS (by decide) ?_)
        · -- 7
          refine ei_i rfl rfl (wn_none rfl) (os_alloc (cs := (wC (List.replicate 64 0)).toArray) zB_100 (by kernel_rfl)) rfl ?_; rintro _ _ ⟨bx32, rfl, rfl⟩; refine ⟨[_, _], rfl, ?_⟩
          refine et_2 (i1 := 2) (i2 := 9) (by kernel_rfl) ?_ ?_
          · -- 2
            refine ei_i rfl rfl (wn_none rfl) (os_call cb_74 rfl (fun w s => keys_calls  s )) rfl ?_; rintro _ l ⟨rfl, rfl⟩; refine ⟨[_, _], rfl, ?_⟩
            refine et_1 (i := 9) (by kernel_rfl) ?_
            refine ei_i rfl rfl (wn_none rfl) (os_alloc (cs := (wC (List.replicate 8 0)).toArray) zB_91 (by kernel_rfl)) rfl ?_; rintro _ _ ⟨bx33, rfl, rfl⟩; refine ⟨[_, _, _], rfl, ?_⟩
            refine et_1 (i := 10) (by kernel_rfl) ?_
            refine ei_iN rfl rfl (wn_none rfl) (os_pull1 (os_storew (wC _) ag_100 rfl rfl (by rw [wC_len]; exact layM_len bs) (wC_one _) (by simp [wC_len, w8C_len]) (Free.zero _))) ?_; rintro _ _ ⟨rfl, rfl⟩; refine ⟨[_, _, _], rfl, ?_⟩
            refine et_1 (i := 11) (by kernel_rfl) ?_
            refine ei_iN rfl rfl (wn_none rfl) (os_pull2 (os_storew (wC _) ag_100 rfl rfl (by rw [wC_len]; rfl) (wC_one _) (by simp [wC_len, w8C_len]) (Free.zero _))) ?_; rintro _ _ ⟨rfl, rfl⟩; refine ⟨[_, _, _], rfl, ?_⟩
            refine et_1 (i := 12) (by kernel_rfl) ?_
            refine ei_iN rfl rfl (wn_none rfl) (os_pull2 (os_storew (wC _) ag_91 rfl rfl (by rw [wC_len]; exact q.w.2) (wC_one _) (by simp [wC_len, w8C_len]) (Free.zero _))) ?_; rintro _ _ ⟨rfl, rfl⟩; refine ⟨[_, _, _], rfl, ?_⟩
            refine et_nil (by kernel_rfl) ?_
            refine px_cut (bx32, bx27, bx33) ⟨rfl, rfl, rfl, trivial⟩ ?_ (fun _ s => ((((s.pull 3).pull 1).pull 2).pull 3))
            repeat (first | exact kept_self | exact kept_over | refine kept_upd rfl ?_ | refine kept_overS (by decide) ?_)
          · -- 9
            refine ei_i rfl rfl (wn_none rfl) (os_alloc (cs := (wC (List.replicate 8 0)).toArray) zB_91 (by kernel_rfl)) rfl ?_; rintro _ _ ⟨bx34, rfl, rfl⟩; refine ⟨[_, _, _], rfl, ?_⟩
            refine et_1 (i := 2) (by kernel_rfl) ?_
            refine ei_i rfl rfl (wn_none rfl) (os_call cb_74 rfl (fun w s => keys_calls  s )) rfl ?_; rintro _ l ⟨rfl, rfl⟩; refine ⟨[_, _, _], rfl, ?_⟩
            refine et_1 (i := 10) (by kernel_rfl) ?_
            refine ei_iN rfl rfl (wn_none rfl) (os_pull1 (os_storew (wC _) ag_100 rfl rfl (by rw [wC_len]; exact layM_len bs) (wC_one _) (by simp [wC_len, w8C_len]) (Free.zero _))) ?_; rintro _ _ ⟨rfl, rfl⟩; refine ⟨[_, _, _], rfl, ?_⟩
            refine et_1 (i := 11) (by kernel_rfl) ?_
            refine ei_iN rfl rfl (wn_none rfl) (os_pull2 (os_storew (wC _) ag_100 rfl rfl (by rw [wC_len]; rfl) (wC_one _) (by simp [wC_len, w8C_len]) (Free.zero _))) ?_; rintro _ _ ⟨rfl, rfl⟩; refine ⟨[_, _, _], rfl, ?_⟩
            refine et_1 (i := 12) (by kernel_rfl) ?_
            refine ei_iN rfl rfl (wn_none rfl) (os_pull2 (os_storew (wC _) ag_91 rfl rfl (by rw [wC_len]; exact q.w.2) (wC_one _) (by simp [wC_len, w8C_len]) (Free.zero _))) ?_; rintro _ _ ⟨rfl, rfl⟩; refine ⟨[_, _, _], rfl, ?_⟩
            refine et_nil (by kernel_rfl) ?_
            refine px_cut (bx32, bx27, bx34) ⟨rfl, rfl, rfl, trivial⟩ ?_ (fun _ s => ((((s.pull 3).pull 1).pull 2).pull 3))
            repeat (first | exact kept_self | exact kept_over | refine kept_upd rfl ?_ | refine kept_overS (by decide) ?_)
        · -- 9
          refine ei_i rfl rfl (wn_none rfl) (os_alloc (cs := (wC (List.replicate 8 0)).toArray) zB_91 (by kernel_rfl)) rfl ?_; rintro _ _ ⟨bx35, rfl, rfl⟩; refine ⟨[_, _], rfl, ?_⟩
          refine et_2 (i1 := 2) (i2 := 7) (by kernel_rfl) ?_ ?_
          · -- 2
            refine ei_i rfl rfl (wn_none rfl) (os_call cb_74 rfl (fun w s => keys_calls  s )) rfl ?_; rintro _ l ⟨rfl, rfl⟩; refine ⟨[_, _], rfl, ?_⟩
            refine et_1 (i := 7) (by kernel_rfl) ?_
            refine ei_i rfl rfl (wn_none rfl) (os_alloc (cs := (wC (List.replicate 64 0)).toArray) zB_100 (by kernel_rfl)) rfl ?_; rintro _ _ ⟨bx36, rfl, rfl⟩; refine ⟨[_, _, _], rfl, ?_⟩
            refine et_1 (i := 10) (by kernel_rfl) ?_
            refine ei_iN rfl rfl (wn_none rfl) (os_storew (wC _) ag_100 rfl rfl (by rw [wC_len]; exact layM_len bs) (wC_one _) (by simp [wC_len, w8C_len]) (Free.zero _)) ?_; rintro _ _ ⟨rfl, rfl⟩; refine ⟨[_, _, _], rfl, ?_⟩
            refine et_1 (i := 11) (by kernel_rfl) ?_
            refine ei_iN rfl rfl (wn_none rfl) (os_pull2 (os_storew (wC _) ag_100 rfl rfl (by rw [wC_len]; rfl) (wC_one _) (by simp [wC_len, w8C_len]) (Free.zero _))) ?_; rintro _ _ ⟨rfl, rfl⟩; refine ⟨[_, _, _], rfl, ?_⟩
            refine et_1 (i := 12) (by kernel_rfl) ?_
            refine ei_iN rfl rfl (wn_none rfl) (os_pull2 (os_storew (wC _) ag_91 rfl rfl (by rw [wC_len]; exact q.w.2) (wC_one _) (by simp [wC_len, w8C_len]) (Free.zero _))) ?_; rintro _ _ ⟨rfl, rfl⟩; refine ⟨[_, _, _], rfl, ?_⟩
            refine et_nil (by kernel_rfl) ?_
            refine px_cut (bx36, bx27, bx35) ⟨rfl, rfl, rfl, trivial⟩ ?_ (fun _ s => ((((s.pull 3).pull 1).pull 2).pull 3))
            repeat (first | exact kept_self | exact kept_over | refine kept_upd rfl ?_ | refine kept_overS (by decide) ?_)
          · -- 7
            refine ei_i rfl rfl (wn_none rfl) (os_alloc (cs := (wC (List.replicate 64 0)).toArray) zB_100 (by kernel_rfl)) rfl ?_; rintro _ _ ⟨bx37, rfl, rfl⟩; refine ⟨[_, _, _], rfl, ?_⟩
            refine et_1 (i := 2) (by kernel_rfl) ?_
            refine ei_i rfl rfl (wn_none rfl) (os_call cb_74 rfl (fun w s => keys_calls  s )) rfl ?_; rintro _ l ⟨rfl, rfl⟩; refine ⟨[_, _, _], rfl, ?_⟩
            refine et_1 (i := 10) (by kernel_rfl) ?_
            refine ei_iN rfl rfl (wn_none rfl) (os_storew (wC _) ag_100 rfl rfl (by rw [wC_len]; exact layM_len bs) (wC_one _) (by simp [wC_len, w8C_len]) (Free.zero _)) ?_; rintro _ _ ⟨rfl, rfl⟩; refine ⟨[_, _, _], rfl, ?_⟩
            refine et_1 (i := 11) (by kernel_rfl) ?_
            refine ei_iN rfl rfl (wn_none rfl) (os_pull2 (os_storew (wC _) ag_100 rfl rfl (by rw [wC_len]; rfl) (wC_one _) (by simp [wC_len, w8C_len]) (Free.zero _))) ?_; rintro _ _ ⟨rfl, rfl⟩; refine ⟨[_, _, _], rfl, ?_⟩
            refine et_1 (i := 12) (by kernel_rfl) ?_
            refine ei_iN rfl rfl (wn_none rfl) (os_pull2 (os_storew (wC _) ag_91 rfl rfl (by rw [wC_len]; exact q.w.2) (wC_one _) (by simp [wC_len, w8C_len]) (Free.zero _))) ?_; rintro _ _ ⟨rfl, rfl⟩; refine ⟨[_, _, _], rfl, ?_⟩
            refine et_nil (by kernel_rfl) ?_
            refine px_cut (bx37, bx27, bx35) ⟨rfl, rfl, rfl, trivial⟩ ?_ (fun _ s => ((((s.pull 3).pull 1).pull 2).pull 3))
            repeat (first | exact kept_self | exact kept_over | refine kept_upd rfl ?_ | refine kept_overS (by decide) ?_)
      · -- 9
        refine ei_i rfl rfl (wn_none rfl) (os_alloc (cs := (wC (List.replicate 8 0)).toArray) zB_91 (by kernel_rfl)) rfl ?_; rintro _ _ ⟨bx38, rfl, rfl⟩; refine ⟨[_], rfl, ?_⟩
        refine et_3 (i1 := 2) (i2 := 7) (i3 := 8) (by kernel_rfl) ?_ ?_ ?_
        · -- 2
          refine ei_i rfl rfl (wn_none rfl) (os_call cb_74 rfl (fun w s => keys_calls  s )) rfl ?_; rintro _ l ⟨rfl, rfl⟩; refine ⟨[_], rfl, ?_⟩
          refine et_2 (i1 := 7) (i2 := 8) (by kernel_rfl) ?_ ?_
          · -- 7
            refine ei_i rfl rfl (wn_none rfl) (os_alloc (cs := (wC (List.replicate 64 0)).toArray) zB_100 (by kernel_rfl)) rfl ?_; rintro _ _ ⟨bx39, rfl, rfl⟩; refine ⟨[_, _], rfl, ?_⟩
            refine et_1 (i := 8) (by kernel_rfl) ?_
            refine ei_i rfl rfl (wn_none rfl) (os_alloc (cs := (wC (List.replicate 64 0)).toArray) zB_100 (by kernel_rfl)) rfl ?_; rintro _ _ ⟨bx40, rfl, rfl⟩; refine ⟨[_, _, _], rfl, ?_⟩
            refine et_1 (i := 10) (by kernel_rfl) ?_
            refine ei_iN rfl rfl (wn_none rfl) (os_pull1 (os_storew (wC _) ag_100 rfl rfl (by rw [wC_len]; exact layM_len bs) (wC_one _) (by simp [wC_len, w8C_len]) (Free.zero _))) ?_; rintro _ _ ⟨rfl, rfl⟩; refine ⟨[_, _, _], rfl, ?_⟩
            refine et_1 (i := 11) (by kernel_rfl) ?_
            refine ei_iN rfl rfl (wn_none rfl) (os_pull1 (os_storew (wC _) ag_100 rfl rfl (by rw [wC_len]; rfl) (wC_one _) (by simp [wC_len, w8C_len]) (Free.zero _))) ?_; rintro _ _ ⟨rfl, rfl⟩; refine ⟨[_, _, _], rfl, ?_⟩
            refine et_1 (i := 12) (by kernel_rfl) ?_
            refine ei_iN rfl rfl (wn_none rfl) (os_pull2 (os_storew (wC _) ag_91 rfl rfl (by rw [wC_len]; exact q.w.2) (wC_one _) (by simp [wC_len, w8C_len]) (Free.zero _))) ?_; rintro _ _ ⟨rfl, rfl⟩; refine ⟨[_, _, _], rfl, ?_⟩
            refine et_nil (by kernel_rfl) ?_
            refine px_cut (bx39, bx40, bx38) ⟨rfl, rfl, rfl, trivial⟩ ?_ (fun _ s => ((((s.pull 3).pull 1).pull 2).pull 3))
            repeat (first | exact kept_self | exact kept_over | refine kept_upd rfl ?_ | refine kept_overS (by decide) ?_)
          · -- 8
            refine ei_i rfl rfl (wn_none rfl) (os_alloc (cs := (wC (List.replicate 64 0)).toArray) zB_100 (by kernel_rfl)) rfl ?_; rintro _ _ ⟨bx41, rfl, rfl⟩; refine ⟨[_, _], rfl, ?_⟩
            refine et_1 (i := 7) (by kernel_rfl) ?_
            refine ei_i rfl rfl (wn_none rfl) (os_alloc (cs := (wC (List.replicate 64 0)).toArray) zB_100 (by kernel_rfl)) rfl ?_; rintro _ _ ⟨bx42, rfl, rfl⟩; refine ⟨[_, _, _], rfl, ?_⟩
            refine et_1 (i := 10) (by kernel_rfl) ?_
            refine ei_iN rfl rfl (wn_none rfl) (os_storew (wC _) ag_100 rfl rfl (by rw [wC_len]; exact layM_len bs) (wC_one _) (by simp [wC_len, w8C_len]) (Free.zero _)) ?_; rintro _ _ ⟨rfl, rfl⟩; refine ⟨[_, _, _], rfl, ?_⟩
            refine et_1 (i := 11) (by kernel_rfl) ?_
            refine ei_iN rfl rfl (wn_none rfl) (os_pull1 (os_storew (wC _) ag_100 rfl rfl (by rw [wC_len]; rfl) (wC_one _) (by simp [wC_len, w8C_len]) (Free.zero _))) ?_; rintro _ _ ⟨rfl, rfl⟩; refine ⟨[_, _, _], rfl, ?_⟩
            refine et_1 (i := 12) (by kernel_rfl) ?_
            refine ei_iN rfl rfl (wn_none rfl) (os_pull2 (os_storew (wC _) ag_91 rfl rfl (by rw [wC_len]; exact q.w.2) (wC_one _) (by simp [wC_len, w8C_len]) (Free.zero _))) ?_; rintro _ _ ⟨rfl, rfl⟩; refine ⟨[_, _, _], rfl, ?_⟩
            refine et_nil (by kernel_rfl) ?_
            refine px_cut (bx42, bx41, bx38) ⟨rfl, rfl, rfl, trivial⟩ ?_ (fun _ s => ((((s.pull 3).pull 1).pull 2).pull 3))
            repeat (first | exact kept_self | exact kept_over | refine kept_upd rfl ?_ | refine kept_overS (by decide) ?_)
        · -- 7
          refine ei_i rfl rfl (wn_none rfl) (os_alloc (cs := (wC (List.replicate 64 0)).toArray) zB_100 (by kernel_rfl)) rfl ?_; rintro _ _ ⟨bx43, rfl, rfl⟩; refine ⟨[_, _], rfl, ?_⟩
          refine et_2 (i1 := 2) (i2 := 8) (by kernel_rfl) ?_ ?_
          · -- 2
            refine ei_i rfl rfl (wn_none rfl) (os_call cb_74 rfl (fun w s => keys_calls  s )) rfl ?_; rintro _ l ⟨rfl, rfl⟩; refine ⟨[_, _], rfl, ?_⟩
            refine et_1 (i := 8) (by kernel_rfl) ?_
            refine ei_i rfl rfl (wn_none rfl) (os_alloc (cs := (wC (List.replicate 64 0)).toArray) zB_100 (by kernel_rfl)) rfl ?_; rintro _ _ ⟨bx44, rfl, rfl⟩; refine ⟨[_, _, _], rfl, ?_⟩
            refine et_1 (i := 10) (by kernel_rfl) ?_
            refine ei_iN rfl rfl (wn_none rfl) (os_pull1 (os_storew (wC _) ag_100 rfl rfl (by rw [wC_len]; exact layM_len bs) (wC_one _) (by simp [wC_len, w8C_len]) (Free.zero _))) ?_; rintro _ _ ⟨rfl, rfl⟩; refine ⟨[_, _, _], rfl, ?_⟩
            refine et_1 (i := 11) (by kernel_rfl) ?_
            refine ei_iN rfl rfl (wn_none rfl) (os_pull1 (os_storew (wC _) ag_100 rfl rfl (by rw [wC_len]; rfl) (wC_one _) (by simp [wC_len, w8C_len]) (Free.zero _))) ?_; rintro _ _ ⟨rfl, rfl⟩; refine ⟨[_, _, _], rfl, ?_⟩
            refine et_1 (i := 12) (by kernel_rfl) ?_
            refine ei_iN rfl rfl (wn_none rfl) (os_pull2 (os_storew (wC _) ag_91 rfl rfl (by rw [wC_len]; exact q.w.2) (wC_one _) (by simp [wC_len, w8C_len]) (Free.zero _))) ?_; rintro _ _ ⟨rfl, rfl⟩; refine ⟨[_, _, _], rfl, ?_⟩
            refine et_nil (by kernel_rfl) ?_
            refine px_cut (bx43, bx44, bx38) ⟨rfl, rfl, rfl, trivial⟩ ?_ (fun _ s => ((((s.pull 3).pull 1).pull 2).pull 3))
            repeat (first | exact kept_self | exact kept_over | refine kept_upd rfl ?_ | refine kept_overS (by decide) ?_)
          · -- 8
            refine ei_i rfl rfl (wn_none rfl) (os_alloc (cs := (wC (List.replicate 64 0)).toArray) zB_100 (by kernel_rfl)) rfl ?_; rintro _ _ ⟨bx45, rfl, rfl⟩; refine ⟨[_, _, _], rfl, ?_⟩
            refine et_1 (i := 2) (by kernel_rfl) ?_
            refine ei_i rfl rfl (wn_none rfl) (os_call cb_74 rfl (fun w s => keys_calls  s )) rfl ?_; rintro _ l ⟨rfl, rfl⟩; refine ⟨[_, _, _], rfl, ?_⟩
            refine et_1 (i := 10) (by kernel_rfl) ?_
            refine ei_iN rfl rfl (wn_none rfl) (os_pull1 (os_storew (wC _) ag_100 rfl rfl (by rw [wC_len]; exact layM_len bs) (wC_one _) (by simp [wC_len, w8C_len]) (Free.zero _))) ?_; rintro _ _ ⟨rfl, rfl⟩; refine ⟨[_, _, _], rfl, ?_⟩
            refine et_1 (i := 11) (by kernel_rfl) ?_
            refine ei_iN rfl rfl (wn_none rfl) (os_pull1 (os_storew (wC _) ag_100 rfl rfl (by rw [wC_len]; rfl) (wC_one _) (by simp [wC_len, w8C_len]) (Free.zero _))) ?_; rintro _ _ ⟨rfl, rfl⟩; refine ⟨[_, _, _], rfl, ?_⟩
            refine et_1 (i := 12) (by kernel_rfl) ?_
            refine ei_iN rfl rfl (wn_none rfl) (os_pull2 (os_storew (wC _) ag_91 rfl rfl (by rw [wC_len]; exact q.w.2) (wC_one _) (by simp [wC_len, w8C_len]) (Free.zero _))) ?_; rintro _ _ ⟨rfl, rfl⟩; refine ⟨[_, _, _], rfl, ?_⟩
            refine et_nil (by kernel_rfl) ?_
            refine px_cut (bx43, bx45, bx38) ⟨rfl, rfl, rfl, trivial⟩ ?_ (fun _ s => ((((s.pull 3).pull 1).pull 2).pull 3))
            repeat (first | exact kept_self | exact kept_over | refine kept_upd rfl ?_ | refine kept_overS (by decide) ?_)
        · -- 8
          refine ei_i rfl rfl (wn_none rfl) (os_alloc (cs := (wC (List.replicate 64 0)).toArray) zB_100 (by kernel_rfl)) rfl ?_; rintro _ _ ⟨bx46, rfl, rfl⟩; refine ⟨[_, _], rfl, ?_⟩
          refine et_2 (i1 := 2) (i2 := 7) (by kernel_rfl) ?_ ?_
          · -- 2
            refine ei_i rfl rfl (wn_none rfl) (os_call cb_74 rfl (fun w s => keys_calls  s )) rfl ?_; rintro _ l ⟨rfl, rfl⟩; refine ⟨[_, _], rfl, ?_⟩
            refine et_1 (i := 7) (by kernel_rfl) ?_
            refine ei_i rfl rfl (wn_none rfl) (os_alloc (cs := (wC (List.replicate 64 0)).toArray) zB_100 (by kernel_rfl)) rfl ?_; rintro _ _ ⟨bx47, rfl, rfl⟩; refine ⟨[_, _, _], rfl, ?_⟩
            refine et_1 (i := 10) (by kernel_rfl) ?_
            refine ei_iN rfl rfl (wn_none rfl) (os_storew (wC _) ag_100 rfl rfl (by rw [wC_len]; exact layM_len bs) (wC_one _) (by simp [wC_len, w8C_len]) (Free.zero _)) ?_; rintro _ _ ⟨rfl, rfl⟩; refine ⟨[_, _, _], rfl, ?_⟩
            refine et_1 (i := 11) (by kernel_rfl) ?_
            refine ei_iN rfl rfl (wn_none rfl) (os_pull1 (os_storew (wC _) ag_100 rfl rfl (by rw [wC_len]; rfl) (wC_one _) (by simp [wC_len, w8C_len]) (Free.zero _))) ?_; rintro _ _ ⟨rfl, rfl⟩; refine ⟨[_, _, _], rfl, ?_⟩
            refine et_1 (i := 12) (by kernel_rfl) ?_
            refine ei_iN rfl rfl (wn_none rfl) (os_pull2 (os_storew (wC _) ag_91 rfl rfl (by rw [wC_len]; exact q.w.2) (wC_one _) (by simp [wC_len, w8C_len]) (Free.zero _))) ?_; rintro _ _ ⟨rfl, rfl⟩; refine ⟨[_, _, _], rfl, ?_⟩
            refine et_nil (by kernel_rfl) ?_
            refine px_cut (bx47, bx46, bx38) ⟨rfl, rfl, rfl, trivial⟩ ?_ (fun _ s => ((((s.pull 3).pull 1).pull 2).pull 3))
            repeat (first | exact kept_self | exact kept_over | refine kept_upd rfl ?_ | refine kept_overS (by decide) ?_)
          · -- 7
            refine ei_i rfl rfl (wn_none rfl) (os_alloc (cs := (wC (List.replicate 64 0)).toArray) zB_100 (by kernel_rfl)) rfl ?_; rintro _ _ ⟨bx48, rfl, rfl⟩; refine ⟨[_, _, _], rfl, ?_⟩
            refine et_1 (i := 2) (by kernel_rfl) ?_
            refine ei_i rfl rfl (wn_none rfl) (os_call cb_74 rfl (fun w s => keys_calls  s )) rfl ?_; rintro _ l ⟨rfl, rfl⟩; refine ⟨[_, _, _], rfl, ?_⟩
            refine et_1 (i := 10) (by kernel_rfl) ?_
            refine ei_iN rfl rfl (wn_none rfl) (os_storew (wC _) ag_100 rfl rfl (by rw [wC_len]; exact layM_len bs) (wC_one _) (by simp [wC_len, w8C_len]) (Free.zero _)) ?_; rintro _ _ ⟨rfl, rfl⟩; refine ⟨[_, _, _], rfl, ?_⟩
            refine et_1 (i := 11) (by kernel_rfl) ?_
            refine ei_iN rfl rfl (wn_none rfl) (os_pull1 (os_storew (wC _) ag_100 rfl rfl (by rw [wC_len]; rfl) (wC_one _) (by simp [wC_len, w8C_len]) (Free.zero _))) ?_; rintro _ _ ⟨rfl, rfl⟩; refine ⟨[_, _, _], rfl, ?_⟩
            refine et_1 (i := 12) (by kernel_rfl) ?_
            refine ei_iN rfl rfl (wn_none rfl) (os_pull2 (os_storew (wC _) ag_91 rfl rfl (by rw [wC_len]; exact q.w.2) (wC_one _) (by simp [wC_len, w8C_len]) (Free.zero _))) ?_; rintro _ _ ⟨rfl, rfl⟩; refine ⟨[_, _, _], rfl, ?_⟩
            refine et_nil (by kernel_rfl) ?_
            refine px_cut (bx48, bx46, bx38) ⟨rfl, rfl, rfl, trivial⟩ ?_ (fun _ s => ((((s.pull 3).pull 1).pull 2).pull 3))
            repeat (first | exact kept_self | exact kept_over | refine kept_upd rfl ?_ | refine kept_overS (by decide) ?_)
    · -- 7
      refine ei_i rfl rfl (wn_none rfl) (os_alloc (cs := (wC (List.replicate 64 0)).toArray) zB_100 (by kernel_rfl)) rfl ?_; rintro _ _ ⟨bx49, rfl, rfl⟩; refine ⟨[_], rfl, ?_⟩
      refine et_3 (i1 := 1) (i2 := 8) (i3 := 9) (by kernel_rfl) ?_ ?_ ?_
      · -- 1
        refine ei_i rfl rfl (wn_none rfl) (os_call cb_73 rfl (fun w s => lay_calls _ _ _  s ((hr.cons _).cons _) (by assumption))) rfl ?_; rintro _ l ⟨rfl, rfl⟩; refine ⟨[_], rfl, ?_⟩
        refine et_3 (i1 := 2) (i2 := 8) (i3 := 9) (by kernel_rfl) ?_ ?_ ?_
        · -- 2
          refine ei_i rfl rfl (wn_none rfl) (os_call cb_74 rfl (fun w s => keys_calls  s )) rfl ?_; rintro _ l ⟨rfl, rfl⟩; refine ⟨[_], rfl, ?_⟩
          refine et_2 (i1 := 8) (i2 := 9) (by kernel_rfl) ?_ ?_
          · -- 8
            refine ei_i rfl rfl (wn_none rfl) (os_alloc (cs := (wC (List.replicate 64 0)).toArray) zB_100 (by kernel_rfl)) rfl ?_; rintro _ _ ⟨bx50, rfl, rfl⟩; refine ⟨[_, _], rfl, ?_⟩
            refine et_1 (i := 9) (by kernel_rfl) ?_
            refine ei_i rfl rfl (wn_none rfl) (os_alloc (cs := (wC (List.replicate 8 0)).toArray) zB_91 (by kernel_rfl)) rfl ?_; rintro _ _ ⟨bx51, rfl, rfl⟩; refine ⟨[_, _, _], rfl, ?_⟩
            refine et_1 (i := 10) (by kernel_rfl) ?_
            refine ei_iN rfl rfl (wn_none rfl) (os_pull2 (os_storew (wC _) ag_100 rfl rfl (by rw [wC_len]; exact layM_len bs) (wC_one _) (by simp [wC_len, w8C_len]) (Free.zero _))) ?_; rintro _ _ ⟨rfl, rfl⟩; refine ⟨[_, _, _], rfl, ?_⟩
            refine et_1 (i := 11) (by kernel_rfl) ?_
            refine ei_iN rfl rfl (wn_none rfl) (os_pull2 (os_storew (wC _) ag_100 rfl rfl (by rw [wC_len]; rfl) (wC_one _) (by simp [wC_len, w8C_len]) (Free.zero _))) ?_; rintro _ _ ⟨rfl, rfl⟩; refine ⟨[_, _, _], rfl, ?_⟩
            refine et_1 (i := 12) (by kernel_rfl) ?_
            refine ei_iN rfl rfl (wn_none rfl) (os_pull2 (os_storew (wC _) ag_91 rfl rfl (by rw [wC_len]; exact q.w.2) (wC_one _) (by simp [wC_len, w8C_len]) (Free.zero _))) ?_; rintro _ _ ⟨rfl, rfl⟩; refine ⟨[_, _, _], rfl, ?_⟩
            refine et_nil (by kernel_rfl) ?_
            refine px_cut (bx49, bx50, bx51) ⟨rfl, rfl, rfl, trivial⟩ ?_ (fun _ s => ((((s.pull 3).pull 1).pull 2).pull 3))
            repeat (first | exact kept_self | exact kept_over | refine kept_upd rfl ?_ | refine kept_overS (by decide) ?_)
          · -- 9
            refine ei_i rfl rfl (wn_none rfl) (os_alloc (cs := (wC (List.replicate 8 0)).toArray) zB_91 (by kernel_rfl)) rfl ?_; rintro _ _ ⟨bx52, rfl, rfl⟩; refine ⟨[_, _], rfl, ?_⟩
            refine et_1 (i := 8) (by kernel_rfl) ?_
            refine ei_i rfl rfl (wn_none rfl) (os_alloc (cs := (wC (List.replicate 64 0)).toArray) zB_100 (by kernel_rfl)) rfl ?_; rintro _ _ ⟨bx53, rfl, rfl⟩; refine ⟨[_, _, _], rfl, ?_⟩
            refine et_1 (i := 10) (by kernel_rfl) ?_
            refine ei_iN rfl rfl (wn_none rfl) (os_pull2 (os_storew (wC _) ag_100 rfl rfl (by rw [wC_len]; exact layM_len bs) (wC_one _) (by simp [wC_len, w8C_len]) (Free.zero _))) ?_; rintro _ _ ⟨rfl, rfl⟩; refine ⟨[_, _, _], rfl, ?_⟩
            refine et_1 (i := 11) (by kernel_rfl) ?_
            refine ei_iN rfl rfl (wn_none rfl) (os_pull1 (os_storew (wC _) ag_100 rfl rfl (by rw [wC_len]; rfl) (wC_one _) (by simp [wC_len, w8C_len]) (Free.zero _))) ?_; rintro _ _ ⟨rfl, rfl⟩; refine ⟨[_, _, _], rfl, ?_⟩
            refine et_1 (i := 12) (by kernel_rfl) ?_
            refine ei_iN rfl rfl (wn_none rfl) (os_pull2 (os_storew (wC _) ag_91 rfl rfl (by rw [wC_len]; exact q.w.2) (wC_one _) (by simp [wC_len, w8C_len]) (Free.zero _))) ?_; rintro _ _ ⟨rfl, rfl⟩; refine ⟨[_, _, _], rfl, ?_⟩
            refine et_nil (by kernel_rfl) ?_
            refine px_cut (bx49, bx53, bx52) ⟨rfl, rfl, rfl, trivial⟩ ?_ (fun _ s => ((((s.pull 3).pull 1).pull 2).pull 3))
            repeat (first | exact kept_self | exact kept_over | refine kept_upd rfl ?_ | refine kept_overS (by decide) ?_)
        · -- 8
          refine ei_i rfl rfl (wn_none rfl) (os_alloc (cs := (wC (List.replicate 64 0)).toArray) zB_100 (by kernel_rfl)) rfl ?_; rintro _ _ ⟨bx54, rfl, rfl⟩; refine ⟨[_, _], rfl, ?_⟩
          refine et_2 (i1 := 2) (i2 := 9) (by kernel_rfl) ?_ ?_
          · -- 2
            refine ei_i rfl rfl (wn_none rfl) (os_call cb_74 rfl (fun w s => keys_calls  s )) rfl ?_; rintro _ l ⟨rfl, rfl⟩; refine ⟨[_, _], rfl, ?_⟩
            refine et_1 (i := 9) (by kernel_rfl) ?_
            refine ei_i rfl rfl (wn_none rfl) (os_alloc (cs := (wC (List.replicate 8 0)).toArray) zB_91 (by kernel_rfl)) rfl ?_; rintro _ _ ⟨bx55, rfl, rfl⟩; refine ⟨[_, _, _], rfl, ?_⟩
            refine et_1 (i := 10) (by kernel_rfl) ?_
            refine ei_iN rfl rfl (wn_none rfl) (os_pull2 (os_storew (wC _) ag_100 rfl rfl (by rw [wC_len]; exact layM_len bs) (wC_one _) (by simp [wC_len, w8C_len]) (Free.zero _))) ?_; rintro _ _ ⟨rfl, rfl⟩; refine ⟨[_, _, _], rfl, ?_⟩
            refine et_1 (i := 11) (by kernel_rfl) ?_
            refine ei_iN rfl rfl (wn_none rfl) (os_pull2 (os_storew (wC _) ag_100 rfl rfl (by rw [wC_len]; rfl) (wC_one _) (by simp [wC_len, w8C_len]) (Free.zero _))) ?_; rintro _ _ ⟨rfl, rfl⟩; refine ⟨[_, _, _], rfl, ?_⟩
            refine et_1 (i := 12) (by kernel_rfl) ?_
            refine ei_iN rfl rfl (wn_none rfl) (os_pull2 (os_storew (wC _) ag_91 rfl rfl (by rw [wC_len]; exact q.w.2) (wC_one _) (by simp [wC_len, w8C_len]) (Free.zero _))) ?_; rintro _ _ ⟨rfl, rfl⟩; refine ⟨[_, _, _], rfl, ?_⟩
            refine et_nil (by kernel_rfl) ?_
            refine px_cut (bx49, bx54, bx55) ⟨rfl, rfl, rfl, trivial⟩ ?_ (fun _ s => ((((s.pull 3).pull 1).pull 2).pull 3))
            repeat (first | exact kept_self | exact kept_over | refine kept_upd rfl ?_ | refine kept_overS (by decide) ?_)
          · -- 9
            refine ei_i rfl rfl (wn_none rfl) (os_alloc (cs := (wC (List.replicate 8 0)).toArray) zB_91 (by kernel_rfl)) rfl ?_; rintro _ _ ⟨bx56, rfl, rfl⟩; refine ⟨[_, _, _], rfl, ?_⟩
            refine et_1 (i := 2) (by kernel_rfl) ?_
            refine ei_i rfl rfl (wn_none rfl) (os_call cb_74 rfl (fun w s => keys_calls  s )) rfl ?_; rintro _ l ⟨rfl, rfl⟩; refine ⟨[_, _, _], rfl, ?_⟩
            refine et_1 (i := 10) (by kernel_rfl) ?_
            refine ei_iN rfl rfl (wn_none rfl) (os_pull2 (os_storew (wC _) ag_100 rfl rfl (by rw [wC_len]; exact layM_len bs) (wC_one _) (by simp [wC_len, w8C_len]) (Free.zero _))) ?_; rintro _ _ ⟨rfl, rfl⟩; refine ⟨[_, _, _], rfl, ?_⟩
            refine et_1 (i := 11) (by kernel_rfl) ?_
            refine ei_iN rfl rfl (wn_none rfl) (os_pull2 (os_storew (wC _) ag_100 rfl rfl (by rw [wC_len]; rfl) (wC_one _) (by simp [wC_len, w8C_len]) (Free.zero _))) ?_; rintro _ _ ⟨rfl, rfl⟩; refine ⟨[_, _, _], rfl, ?_⟩
            refine et_1 (i := 12) (by kernel_rfl) ?_
            refine ei_iN rfl rfl (wn_none rfl) (os_pull2 (os_storew (wC _) ag_91 rfl rfl (by rw [wC_len]; exact q.w.2) (wC_one _) (by simp [wC_len, w8C_len]) (Free.zero _))) ?_; rintro _ _ ⟨rfl, rfl⟩; refine ⟨[_, _, _], rfl, ?_⟩
            refine et_nil (by kernel_rfl) ?_
            refine px_cut (bx49, bx54, bx56) ⟨rfl, rfl, rfl, trivial⟩ ?_ (fun _ s => ((((s.pull 3).pull 1).pull 2).pull 3))
            repeat (first | exact kept_self | exact kept_over | refine kept_upd rfl ?_ | refine kept_overS (by decide) ?_)
        · -- 9
          refine ei_i rfl rfl (wn_none rfl) (os_alloc (cs := (wC (List.replicate 8 0)).toArray) zB_91 (by kernel_rfl)) rfl ?_; rintro _ _ ⟨bx57, rfl, rfl⟩; refine ⟨[_, _], rfl, ?_⟩
          refine et_2 (i1 := 2) (i2 := 8) (by kernel_rfl) ?_ ?_
          · -- 2
            refine ei_i rfl rfl (wn_none rfl) (os_call cb_74 rfl (fun w s => keys_calls  s )) rfl ?_; rintro _ l ⟨rfl, rfl⟩; refine ⟨[_, _], rfl, ?_⟩
            refine et_1 (i := 8) (by kernel_rfl) ?_
            refine ei_i rfl rfl (wn_none rfl) (os_alloc (cs := (wC (List.replicate 64 0)).toArray) zB_100 (by kernel_rfl)) rfl ?_; rintro _ _ ⟨bx58, rfl, rfl⟩; refine ⟨[_, _, _], rfl, ?_⟩
            refine et_1 (i := 10) (by kernel_rfl) ?_
            refine ei_iN rfl rfl (wn_none rfl) (os_pull2 (os_storew (wC _) ag_100 rfl rfl (by rw [wC_len]; exact layM_len bs) (wC_one _) (by simp [wC_len, w8C_len]) (Free.zero _))) ?_; rintro _ _ ⟨rfl, rfl⟩; refine ⟨[_, _, _], rfl, ?_⟩
            refine et_1 (i := 11) (by kernel_rfl) ?_
            refine ei_iN rfl rfl (wn_none rfl) (os_pull1 (os_storew (wC _) ag_100 rfl rfl (by rw [wC_len]; rfl) (wC_one _) (by simp [wC_len, w8C_len]) (Free.zero _))) ?_; rintro _ _ ⟨rfl, rfl⟩; refine ⟨[_, _, _], rfl, ?_⟩
            refine et_1 (i := 12) (by kernel_rfl) ?_
            refine ei_iN rfl rfl (wn_none rfl) (os_pull2 (os_storew (wC _) ag_91 rfl rfl (by rw [wC_len]; exact q.w.2) (wC_one _) (by simp [wC_len, w8C_len]) (Free.zero _))) ?_; rintro _ _ ⟨rfl, rfl⟩; refine ⟨[_, _, _], rfl, ?_⟩
            refine et_nil (by kernel_rfl) ?_
            refine px_cut (bx49, bx58, bx57) ⟨rfl, rfl, rfl, trivial⟩ ?_ (fun _ s => ((((s.pull 3).pull 1).pull 2).pull 3))
            repeat (first | exact kept_self | exact kept_over | refine kept_upd rfl ?_ | refine kept_overS (by decide) ?_)
          · -- 8
            refine ei_i rfl rfl (wn_none rfl) (os_alloc (cs := (wC (List.replicate 64 0)).toArray) zB_100 (by kernel_rfl)) rfl ?_; rintro _ _ ⟨bx59, rfl, rfl⟩; refine ⟨[_, _, _], rfl, ?_⟩
            refine et_1 (i := 2) (by kernel_rfl) ?_
            refine ei_i rfl rfl (wn_none rfl) (os_call cb_74 rfl (fun w s => keys_calls  s )) rfl ?_; rintro _ l ⟨rfl, rfl⟩; refine ⟨[_, _, _], rfl, ?_⟩
            refine et_1 (i := 10) (by kernel_rfl) ?_
            refine ei_iN rfl rfl (wn_none rfl) (os_pull2 (os_storew (wC _) ag_100 rfl rfl (by rw [wC_len]; exact layM_len bs) (wC_one _) (by simp [wC_len, w8C_len]) (Free.zero _))) ?_; rintro _ _ ⟨rfl, rfl⟩; refine ⟨[_, _, _], rfl, ?_⟩
            refine et_1 (i := 11) (by kernel_rfl) ?_
            refine ei_iN rfl rfl (wn_none rfl) (os_pull1 (os_storew (wC _) ag_100 rfl rfl (by rw [wC_len]; rfl) (wC_one _) (by simp [wC_len, w8C_len]) (Free.zero _))) ?_; rintro _ _ ⟨rfl, rfl⟩; refine ⟨[_, _, _], rfl, ?_⟩
            refine et_1 (i := 12) (by kernel_rfl) ?_
            refine ei_iN rfl rfl (wn_none rfl) (os_pull2 (os_storew (wC _) ag_91 rfl rfl (by rw [wC_len]; exact q.w.2) (wC_one _) (by simp [wC_len, w8C_len]) (Free.zero _))) ?_; rintro _ _ ⟨rfl, rfl⟩; refine ⟨[_, _, _], rfl, ?_⟩
            refine et_nil (by kernel_rfl) ?_
            refine px_cut (bx49, bx59, bx57) ⟨rfl, rfl, rfl, trivial⟩ ?_ (fun _ s => ((((s.pull 3).pull 1).pull 2).pull 3))
            repeat (first | exact kept_self | exact kept_over | refine kept_upd rfl ?_ | refine kept_overS (by decide) ?_)
      · -- 8
        refine ei_i rfl rfl (wn_none rfl) (os_alloc (cs := (wC (List.replicate 64 0)).toArray) zB_100 (by kernel_rfl)) rfl ?_; rintro _ _ ⟨bx60, rfl, rfl⟩; refine ⟨[_, _], rfl, ?_⟩
        refine et_2 (i1 := 1) (i2 := 9) (by kernel_rfl) ?_ ?_
        · -- 1
          refine ei_i rfl rfl (wn_none rfl) (os_call cb_73 rfl (fun w s => lay_calls _ _ _  s (((hr.cons _).cons _).cons _) (by assumption))) rfl ?_; rintro _ l ⟨rfl, rfl⟩; refine ⟨[_, _], rfl, ?_⟩
          refine et_2 (i1 := 2) (i2 := 9) (by kernel_rfl) ?_ ?_
          · -- 2
            refine ei_i rfl rfl (wn_none rfl) (os_call cb_74 rfl (fun w s => keys_calls  s )) rfl ?_; rintro _ l ⟨rfl, rfl⟩; refine ⟨[_, _], rfl, ?_⟩
            refine et_1 (i := 9) (by kernel_rfl) ?_
            refine ei_i rfl rfl (wn_none rfl) (os_alloc (cs := (wC (List.replicate 8 0)).toArray) zB_91 (by kernel_rfl)) rfl ?_; rintro _ _ ⟨bx61, rfl, rfl⟩; refine ⟨[_, _, _], rfl, ?_⟩
            refine et_1 (i := 10) (by kernel_rfl) ?_
            refine ei_iN rfl rfl (wn_none rfl) (os_pull2 (os_storew (wC _) ag_100 rfl rfl (by rw [wC_len]; exact layM_len bs) (wC_one _) (by simp [wC_len, w8C_len]) (Free.zero _))) ?_; rintro _ _ ⟨rfl, rfl⟩; refine ⟨[_, _, _], rfl, ?_⟩
            refine et_1 (i := 11) (by kernel_rfl) ?_
            refine ei_iN rfl rfl (wn_none rfl) (os_pull2 (os_storew (wC _) ag_100 rfl rfl (by rw [wC_len]; rfl) (wC_one _) (by simp [wC_len, w8C_len]) (Free.zero _))) ?_; rintro _ _ ⟨rfl, rfl⟩; refine ⟨[_, _, _], rfl, ?_⟩
            refine et_1 (i := 12) (by kernel_rfl) ?_
            refine ei_iN rfl rfl (wn_none rfl) (os_pull2 (os_storew (wC _) ag_91 rfl rfl (by rw [wC_len]; exact q.w.2) (wC_one _) (by simp [wC_len, w8C_len]) (Free.zero _))) ?_; rintro _ _ ⟨rfl, rfl⟩; refine ⟨[_, _, _], rfl, ?_⟩
            refine et_nil (by kernel_rfl) ?_
            refine px_cut (bx49, bx60, bx61) ⟨rfl, rfl, rfl, trivial⟩ ?_ (fun _ s => ((((s.pull 3).pull 1).pull 2).pull 3))
            repeat (first | exact kept_self | exact kept_over | refine kept_upd rfl ?_ | refine kept_overS (by decide) ?_)
          · -- 9
            refine ei_i rfl rfl (wn_none rfl) (os_alloc (cs := (wC (List.replicate 8 0)).toArray) zB_91 (by kernel_rfl)) rfl ?_; rintro _ _ ⟨bx62, rfl, rfl⟩; refine ⟨[_, _, _], rfl, ?_⟩
            refine et_1 (i := 2) (by kernel_rfl) ?_
            refine ei_i rfl rfl (wn_none rfl) (os_call cb_74 rfl (fun w s => keys_calls  s )) rfl ?_; rintro _ l ⟨rfl, rfl⟩; refine ⟨[_, _, _], rfl, ?_⟩
            refine et_1 (i := 10) (by kernel_rfl) ?_
            refine ei_iN rfl rfl (wn_none rfl) (os_pull2 (os_storew (wC _) ag_100 rfl rfl (by rw [wC_len]; exact layM_len bs) (wC_one _) (by simp [wC_len, w8C_len]) (Free.zero _))) ?_; rintro _ _ ⟨rfl, rfl⟩; refine ⟨[_, _, _], rfl, ?_⟩
            refine et_1 (i := 11) (by kernel_rfl) ?_
            refine ei_iN rfl rfl (wn_none rfl) (os_pull2 (os_storew (wC _) ag_100 rfl rfl (by rw [wC_len]; rfl) (wC_one _) (by simp [wC_len, w8C_len]) (Free.zero _))) ?_; rintro _ _ ⟨rfl, rfl⟩; refine ⟨[_, _, _], rfl, ?_⟩
            refine et_1 (i := 12) (by kernel_rfl) ?_
            refine ei_iN rfl rfl (wn_none rfl) (os_pull2 (os_storew (wC _) ag_91 rfl rfl (by rw [wC_len]; exact q.w.2) (wC_one _) (by simp [wC_len, w8C_len]) (Free.zero _))) ?_; rintro _ _ ⟨rfl, rfl⟩; refine ⟨[_, _, _], rfl, ?_⟩
            refine et_nil (by kernel_rfl) ?_
            refine px_cut (bx49, bx60, bx62) ⟨rfl, rfl, rfl, trivial⟩ ?_ (fun _ s => ((((s.pull 3).pull 1).pull 2).pull 3))
            repeat (first | exact kept_self | exact kept_over | refine kept_upd rfl ?_ | refine kept_overS (by decide) ?_)
        · -- 9
          refine ei_i rfl rfl (wn_none rfl) (os_alloc (cs := (wC (List.replicate 8 0)).toArray) zB_91 (by kernel_rfl)) rfl ?_; rintro _ _ ⟨bx63, rfl, rfl⟩; refine ⟨[_, _, _], rfl, ?_⟩
          refine et_1 (i := 1) (by kernel_rfl) ?_
          refine ei_i rfl rfl (wn_none rfl) (os_call cb_73 rfl (fun w s => lay_calls _ _ _  s ((((hr.cons _).cons _).cons _).cons _) (by assumption))) rfl ?_; rintro _ l ⟨rfl, rfl⟩; refine ⟨[_, _, _], rfl, ?_⟩
          refine et_1 (i := 2) (by kernel_rfl) ?_
          refine ei_i rfl rfl (wn_none rfl) (os_call cb_74 rfl (fun w s => keys_calls  s )) rfl ?_; rintro _ l ⟨rfl, rfl⟩; refine ⟨[_, _, _], rfl, ?_⟩
          refine et_1 (i := 10) (by kernel_rfl) ?_
          refine ei_iN rfl rfl (wn_none rfl) (os_pull2 (os_storew (wC _) ag_100 rfl rfl (by rw [wC_len]; exact layM_len bs) (wC_one _) (by simp [wC_len, w8C_len]) (Free.zero _))) ?_; rintro _ _ ⟨rfl, rfl⟩; refine ⟨[_, _, _], rfl, ?_⟩
          refine et_1 (i := 11) (by kernel_rfl) ?_
          refine ei_iN rfl rfl (wn_none rfl) (os_pull2 (os_storew (wC _) ag_100 rfl rfl (by rw [wC_len]; rfl) (wC_one _) (by simp [wC_len, w8C_len]) (Free.zero _))) ?_; rintro _ _ ⟨rfl, rfl⟩; refine ⟨[_, _, _], rfl, ?_⟩
          refine et_1 (i := 12) (by kernel_rfl) ?_
          refine ei_iN rfl rfl (wn_none rfl) (os_pull2 (os_storew (wC _) ag_91 rfl rfl (by rw [wC_len]; exact q.w.2) (wC_one _) (by simp [wC_len, w8C_len]) (Free.zero _))) ?_; rintro _ _ ⟨rfl, rfl⟩; refine ⟨[_, _, _], rfl, ?_⟩
          refine et_nil (by kernel_rfl) ?_
          refine px_cut (bx49, bx60, bx63) ⟨rfl, rfl, rfl, trivial⟩ ?_ (fun _ s => ((((s.pull 3).pull 1).pull 2).pull 3))
          repeat (first | exact kept_self | exact kept_over | refine kept_upd rfl ?_ | refine kept_overS (by decide) ?_)
      · -- 9
        refine ei_i rfl rfl (wn_none rfl) (os_alloc (cs := (wC (List.replicate 8 0)).toArray) zB_91 (by kernel_rfl)) rfl ?_; rintro _ _ ⟨bx64, rfl, rfl⟩; refine ⟨[_, _], rfl, ?_⟩
        refine et_2 (i1 := 1) (i2 := 8) (by kernel_rfl) ?_ ?_
        · -- 1
          refine ei_i rfl rfl (wn_none rfl) (os_call cb_73 rfl (fun w s => lay_calls _ _ _  s (((hr.cons _).cons _).cons _) (by assumption))) rfl ?_; rintro _ l ⟨rfl, rfl⟩; refine ⟨[_, _], rfl, ?_⟩
          refine et_2 (i1 := 2) (i2 := 8) (by kernel_rfl) ?_ ?_
          · -- 2
            refine ei_i rfl rfl (wn_none rfl) (os_call cb_74 rfl (fun w s => keys_calls  s )) rfl ?_; rintro _ l ⟨rfl, rfl⟩; refine ⟨[_, _], rfl, ?_⟩
            refine et_1 (i := 8) (by kernel_rfl) ?_
            refine ei_i rfl rfl (wn_none rfl) (os_alloc (cs := (wC (List.replicate 64 0)).toArray) zB_100 (by kernel_rfl)) rfl ?_; rintro _ _ ⟨bx65, rfl, rfl⟩; refine ⟨[_, _, _], rfl, ?_⟩
            refine et_1 (i := 10) (by kernel_rfl) ?_
            refine ei_iN rfl rfl (wn_none rfl) (os_pull2 (os_storew (wC _) ag_100 rfl rfl (by rw [wC_len]; exact layM_len bs) (wC_one _) (by simp [wC_len, w8C_len]) (Free.zero _))) ?_; rintro _ _ ⟨rfl, rfl⟩; refine ⟨[_, _, _], rfl, ?_⟩
            refine et_1 (i := 11) (by kernel_rfl) ?_
            refine ei_iN rfl rfl (wn_none rfl) (os_pull1 (os_storew (wC _) ag_100 rfl rfl (by rw [wC_len]; rfl) (wC_one _) (by simp [wC_len, w8C_len]) (Free.zero _))) ?_; rintro _ _ ⟨rfl, rfl⟩; refine ⟨[_, _, _], rfl, ?_⟩
            refine et_1 (i := 12) (by kernel_rfl) ?_
            refine ei_iN rfl rfl (wn_none rfl) (os_pull2 (os_storew (wC _) ag_91 rfl rfl (by rw [wC_len]; exact q.w.2) (wC_one _) (by simp [wC_len, w8C_len]) (Free.zero _))) ?_; rintro _ _ ⟨rfl, rfl⟩; refine ⟨[_, _, _], rfl, ?_⟩
            refine et_nil (by kernel_rfl) ?_
            refine px_cut (bx49, bx65, bx64) ⟨rfl, rfl, rfl, trivial⟩ ?_ (fun _ s => ((((s.pull 3).pull 1).pull 2).pull 3))
            repeat (first | exact kept_self | exact kept_over | refine kept_upd rfl ?_ | refine kept_overS (by decide) ?_)
          · -- 8
            refine ei_i rfl rfl (wn_none rfl) (os_alloc (cs := (wC (List.replicate 64 0)).toArray) zB_100 (by kernel_rfl)) rfl ?_; rintro _ _ ⟨bx66, rfl, rfl⟩; refine ⟨[_, _, _], rfl, ?_⟩
            refine et_1 (i := 2) (by kernel_rfl) ?_
            refine ei_i rfl rfl (wn_none rfl) (os_call cb_74 rfl (fun w s => keys_calls  s )) rfl ?_; rintro _ l ⟨rfl, rfl⟩; refine ⟨[_, _, _], rfl, ?_⟩
            refine et_1 (i := 10) (by kernel_rfl) ?_
            refine ei_iN rfl rfl (wn_none rfl) (os_pull2 (os_storew (wC _) ag_100 rfl rfl (by rw [wC_len]; exact layM_len bs) (wC_one _) (by simp [wC_len, w8C_len]) (Free.zero _))) ?_; rintro _ _ ⟨rfl, rfl⟩; refine ⟨[_, _, _], rfl, ?_⟩
            refine et_1 (i := 11) (by kernel_rfl) ?_
            refine ei_iN rfl rfl (wn_none rfl) (os_pull1 (os_storew (wC _) ag_100 rfl rfl (by rw [wC_len]; rfl) (wC_one _) (by simp [wC_len, w8C_len]) (Free.zero _))) ?_; rintro _ _ ⟨rfl, rfl⟩; refine ⟨[_, _, _], rfl, ?_⟩
            refine et_1 (i := 12) (by kernel_rfl) ?_
            refine ei_iN rfl rfl (wn_none rfl) (os_pull2 (os_storew (wC _) ag_91 rfl rfl (by rw [wC_len]; exact q.w.2) (wC_one _) (by simp [wC_len, w8C_len]) (Free.zero _))) ?_; rintro _ _ ⟨rfl, rfl⟩; refine ⟨[_, _, _], rfl, ?_⟩
            refine et_nil (by kernel_rfl) ?_
            refine px_cut (bx49, bx66, bx64) ⟨rfl, rfl, rfl, trivial⟩ ?_ (fun _ s => ((((s.pull 3).pull 1).pull 2).pull 3))
            repeat (first | exact kept_self | exact kept_over | refine kept_upd rfl ?_ | refine kept_overS (by decide) ?_)
        · -- 8
          refine ei_i rfl rfl (wn_none rfl) (os_alloc (cs := (wC (List.replicate 64 0)).toArray) zB_100 (by kernel_rfl)) rfl ?_; rintro _ _ ⟨bx67, rfl, rfl⟩; refine ⟨[_, _, _], rfl, ?_⟩
          refine et_1 (i := 1) (by kernel_rfl) ?_
          refine ei_i rfl rfl (wn_none rfl) (os_call cb_73 rfl (fun w s => lay_calls _ _ _  s ((((hr.cons _).cons _).cons _).cons _) (by assumption))) rfl ?_; rintro _ l ⟨rfl, rfl⟩; refine ⟨[_, _, _], rfl, ?_⟩
          refine et_1 (i := 2) (by kernel_rfl) ?_
          refine ei_i rfl rfl (wn_none rfl) (os_call cb_74 rfl (fun w s => keys_calls  s )) rfl ?_; rintro _ l ⟨rfl, rfl⟩; refine ⟨[_, _, _], rfl, ?_⟩
          refine et_1 (i := 10) (by kernel_rfl) ?_
          refine ei_iN rfl rfl (wn_none rfl) (os_pull2 (os_storew (wC _) ag_100 rfl rfl (by rw [wC_len]; exact layM_len bs) (wC_one _) (by simp [wC_len, w8C_len]) (Free.zero _))) ?_; rintro _ _ ⟨rfl, rfl⟩; refine ⟨[_, _, _], rfl, ?_⟩
          refine et_1 (i := 11) (by kernel_rfl) ?_
          refine ei_iN rfl rfl (wn_none rfl) (os_pull1 (os_storew (wC _) ag_100 rfl rfl (by rw [wC_len]; rfl) (wC_one _) (by simp [wC_len, w8C_len]) (Free.zero _))) ?_; rintro _ _ ⟨rfl, rfl⟩; refine ⟨[_, _, _], rfl, ?_⟩
          refine et_1 (i := 12) (by kernel_rfl) ?_
          refine ei_iN rfl rfl (wn_none rfl) (os_pull2 (os_storew (wC _) ag_91 rfl rfl (by rw [wC_len]; exact q.w.2) (wC_one _) (by simp [wC_len, w8C_len]) (Free.zero _))) ?_; rintro _ _ ⟨rfl, rfl⟩; refine ⟨[_, _, _], rfl, ?_⟩
          refine et_nil (by kernel_rfl) ?_
          refine px_cut (bx49, bx67, bx64) ⟨rfl, rfl, rfl, trivial⟩ ?_ (fun _ s => ((((s.pull 3).pull 1).pull 2).pull 3))
          repeat (first | exact kept_self | exact kept_over | refine kept_upd rfl ?_ | refine kept_overS (by decide) ?_)
    · -- 8
      refine ei_i rfl rfl (wn_none rfl) (os_alloc (cs := (wC (List.replicate 64 0)).toArray) zB_100 (by kernel_rfl)) rfl ?_; rintro _ _ ⟨bx68, rfl, rfl⟩; refine ⟨[_], rfl, ?_⟩
      refine et_3 (i1 := 1) (i2 := 7) (i3 := 9) (by kernel_rfl) ?_ ?_ ?_
      · -- 1
        refine ei_i rfl rfl (wn_none rfl) (os_call cb_73 rfl (fun w s => lay_calls _ _ _  s ((hr.cons _).cons _) (by assumption))) rfl ?_; rintro _ l ⟨rfl, rfl⟩; refine ⟨[_], rfl, ?_⟩
        refine et_3 (i1 := 2) (i2 := 7) (i3 := 9) (by kernel_rfl) ?_ ?_ ?_
        · -- 2
          refine ei_i rfl rfl (wn_none rfl) (os_call cb_74 rfl (fun w s => keys_calls  s )) rfl ?_; rintro _ l ⟨rfl, rfl⟩; refine ⟨[_], rfl, ?_⟩
          refine et_2 (i1 := 7) (i2 := 9) (by kernel_rfl) ?_ ?_
          · -- 7
            refine ei_i rfl rfl (wn_none rfl) (os_alloc (cs := (wC (List.replicate 64 0)).toArray) zB_100 (by kernel_rfl)) rfl ?_; rintro _ _ ⟨bx69, rfl, rfl⟩; refine ⟨[_, _], rfl, ?_⟩
            refine et_1 (i := 9) (by kernel_rfl) ?_
            refine ei_i rfl rfl (wn_none rfl) (os_alloc (cs := (wC (List.replicate 8 0)).toArray) zB_91 (by kernel_rfl)) rfl ?_; rintro _ _ ⟨bx70, rfl, rfl⟩; refine ⟨[_, _, _], rfl, ?_⟩
            refine et_1 (i := 10) (by kernel_rfl) ?_
            refine ei_iN rfl rfl (wn_none rfl) (os_pull1 (os_storew (wC _) ag_100 rfl rfl (by rw [wC_len]; exact layM_len bs) (wC_one _) (by simp [wC_len, w8C_len]) (Free.zero _))) ?_; rintro _ _ ⟨rfl, rfl⟩; refine ⟨[_, _, _], rfl, ?_⟩
            refine et_1 (i := 11) (by kernel_rfl) ?_
            refine ei_iN rfl rfl (wn_none rfl) (os_pull2 (os_storew (wC _) ag_100 rfl rfl (by rw [wC_len]; rfl) (wC_one _) (by simp [wC_len, w8C_len]) (Free.zero _))) ?_; rintro _ _ ⟨rfl, rfl⟩; refine ⟨[_, _, _], rfl, ?_⟩
            refine et_1 (i := 12) (by kernel_rfl) ?_
            refine ei_iN rfl rfl (wn_none rfl) (os_pull2 (os_storew (wC _) ag_91 rfl rfl (by rw [wC_len]; exact q.w.2) (wC_one _) (by simp [wC_len, w8C_len]) (Free.zero _))) ?_; rintro _ _ ⟨rfl, rfl⟩; refine ⟨[_, _, _], rfl, ?_⟩
            refine et_nil (by kernel_rfl) ?_
            refine px_cut (bx69, bx68, bx70) ⟨rfl, rfl, rfl, trivial⟩ ?_ (fun _ s => ((((s.pull 3).pull 1).pull 2).pull 3))
            repeat (first | exact kept_self | exact kept_over | refine kept_upd rfl ?_ | refine kept_overS (by decide) ?_)
          · -- 9
            refine ei_i rfl rfl (wn_none rfl) (os_alloc (cs := (wC (List.replicate 8 0)).toArray) zB_91 (by kernel_rfl)) rfl ?_; rintro _ _ ⟨bx71, rfl, rfl⟩; refine ⟨[_, _], rfl, ?_⟩
            refine et_1 (i := 7) (by kernel_rfl) ?_
            refine ei_i rfl rfl (wn_none rfl) (os_alloc (cs := (wC (List.replicate 64 0)).toArray) zB_100 (by kernel_rfl)) rfl ?_; rintro _ _ ⟨bx72, rfl, rfl⟩; refine ⟨[_, _, _], rfl, ?_⟩
            refine et_1 (i := 10) (by kernel_rfl) ?_
            refine ei_iN rfl rfl (wn_none rfl) (os_storew (wC _) ag_100 rfl rfl (by rw [wC_len]; exact layM_len bs) (wC_one _) (by simp [wC_len, w8C_len]) (Free.zero _)) ?_; rintro _ _ ⟨rfl, rfl⟩; refine ⟨[_, _, _], rfl, ?_⟩
            refine et_1 (i := 11) (by kernel_rfl) ?_
            refine ei_iN rfl rfl (wn_none rfl) (os_pull2 (os_storew (wC _) ag_100 rfl rfl (by rw [wC_len]; rfl) (wC_one _) (by simp [wC_len, w8C_len]) (Free.zero _))) ?_; rintro _ _ ⟨rfl, rfl⟩; refine ⟨[_, _, _], rfl, ?_⟩
            refine et_1 (i := 12) (by kernel_rfl) ?_
            refine ei_iN rfl rfl (wn_none rfl) (os_pull2 (os_storew (wC _) ag_91 rfl rfl (by rw [wC_len]; exact q.w.2) (wC_one _) (by simp [wC_len, w8C_len]) (Free.zero _))) ?_; rintro _ _ ⟨rfl, rfl⟩; refine ⟨[_, _, _], rfl, ?_⟩
            refine et_nil (by kernel_rfl) ?_
            refine px_cut (bx72, bx68, bx71) ⟨rfl, rfl, rfl, trivial⟩ ?_ (fun _ s => ((((s.pull 3).pull 1).pull 2).pull 3))
            repeat (first | exact kept_self | exact kept_over | refine kept_upd rfl ?_ | refine kept_overS (by decide) ?_)
        · -- 7
          refine ei_i rfl rfl (wn_none rfl) (os_alloc (cs := (wC (List.replicate 64 0)).toArray) zB_100 (by kernel_rfl)) rfl ?_; rintro _ _ ⟨bx73, rfl, rfl⟩; refine ⟨[_, _], rfl, ?_⟩
          refine et_2 (i1 := 2) (i2 := 9) (by kernel_rfl) ?_ ?_
          · -- 2
            refine ei_i rfl rfl (wn_none rfl) (os_call cb_74 rfl (fun w s => keys_calls  s )) rfl ?_; rintro _ l ⟨rfl, rfl⟩; refine ⟨[_, _], rfl, ?_⟩
            refine et_1 (i := 9) (by kernel_rfl) ?_
            refine ei_i rfl rfl (wn_none rfl) (os_alloc (cs := (wC (List.replicate 8 0)).toArray) zB_91 (by kernel_rfl)) rfl ?_; rintro _ _ ⟨bx74, rfl, rfl⟩; refine ⟨[_, _, _], rfl, ?_⟩
            refine et_1 (i := 10) (by kernel_rfl) ?_
            refine ei_iN rfl rfl (wn_none rfl) (os_pull1 (os_storew (wC _) ag_100 rfl rfl (by rw [wC_len]; exact layM_len bs) (wC_one _) (by simp [wC_len, w8C_len]) (Free.zero _))) ?_; rintro _ _ ⟨rfl, rfl⟩; refine ⟨[_, _, _], rfl, ?_⟩
            refine et_1 (i := 11) (by kernel_rfl) ?_
            refine ei_iN rfl rfl (wn_none rfl) (os_pull2 (os_storew (wC _) ag_100 rfl rfl (by rw [wC_len]; rfl) (wC_one _) (by simp [wC_len, w8C_len]) (Free.zero _))) ?_; rintro _ _ ⟨rfl, rfl⟩; refine ⟨[_, _, _], rfl, ?_⟩
            refine et_1 (i := 12) (by kernel_rfl) ?_
            refine ei_iN rfl rfl (wn_none rfl) (os_pull2 (os_storew (wC _) ag_91 rfl rfl (by rw [wC_len]; exact q.w.2) (wC_one _) (by simp [wC_len, w8C_len]) (Free.zero _))) ?_; rintro _ _ ⟨rfl, rfl⟩; refine ⟨[_, _, _], rfl, ?_⟩
            refine et_nil (by kernel_rfl) ?_
            refine px_cut (bx73, bx68, bx74) ⟨rfl, rfl, rfl, trivial⟩ ?_ (fun _ s => ((((s.pull 3).pull 1).pull 2).pull 3))
            repeat (first | exact kept_self | exact kept_over | refine kept_upd rfl ?_ | refine kept_overS (by decide) ?_)
          · -- 9
            refine ei_i rfl rfl (wn_none rfl) (os_alloc (cs := (wC (List.replicate 8 0)).toArray) zB_91 (by kernel_rfl)) rfl ?_; rintro _ _ ⟨bx75, rfl, rfl⟩; refine ⟨[_, _, _], rfl, ?_⟩
            refine et_1 (i := 2) (by kernel_rfl) ?_
            refine ei_i rfl rfl (wn_none rfl) (os_call cb_74 rfl (fun w s => keys_calls  s )) rfl ?_; rintro _ l ⟨rfl, rfl⟩; refine ⟨[_, _, _], rfl, ?_⟩
            refine et_1 (i := 10) (by kernel_rfl) ?_
            refine ei_iN rfl rfl (wn_none rfl) (os_pull1 (os_storew (wC _) ag_100 rfl rfl (by rw [wC_len]; exact layM_len bs) (wC_one _) (by simp [wC_len, w8C_len]) (Free.zero _))) ?_; rintro _ _ ⟨rfl, rfl⟩; refine ⟨[_, _, _], rfl, ?_⟩
            refine et_1 (i := 11) (by kernel_rfl) ?_
            refine ei_iN rfl rfl (wn_none rfl) (os_pull2 (os_storew (wC _) ag_100 rfl rfl (by rw [wC_len]; rfl) (wC_one _) (by simp [wC_len, w8C_len]) (Free.zero _))) ?_; rintro _ _ ⟨rfl, rfl⟩; refine ⟨[_, _, _], rfl, ?_⟩
            refine et_1 (i := 12) (by kernel_rfl) ?_
            refine ei_iN rfl rfl (wn_none rfl) (os_pull2 (os_storew (wC _) ag_91 rfl rfl (by rw [wC_len]; exact q.w.2) (wC_one _) (by simp [wC_len, w8C_len]) (Free.zero _))) ?_; rintro _ _ ⟨rfl, rfl⟩; refine ⟨[_, _, _], rfl, ?_⟩
            refine et_nil (by kernel_rfl) ?_
            refine px_cut (bx73, bx68, bx75) ⟨rfl, rfl, rfl, trivial⟩ ?_ (fun _ s => ((((s.pull 3).pull 1).pull 2).pull 3))
            repeat (first | exact kept_self | exact kept_over | refine kept_upd rfl ?_ | refine kept_overS (by decide) ?_)
        · -- 9
          refine ei_i rfl rfl (wn_none rfl) (os_alloc (cs := (wC (List.replicate 8 0)).toArray) zB_91 (by kernel_rfl)) rfl ?_; rintro _ _ ⟨bx76, rfl, rfl⟩; refine ⟨[_, _], rfl, ?_⟩
          refine et_2 (i1 := 2) (i2 := 7) (by kernel_rfl) ?_ ?_
          · -- 2
            refine ei_i rfl rfl (wn_none rfl) (os_call cb_74 rfl (fun w s => keys_calls  s )) rfl ?_; rintro _ l ⟨rfl, rfl⟩; refine ⟨[_, _], rfl, ?_⟩
            refine et_1 (i := 7) (by kernel_rfl) ?_
            refine ei_i rfl rfl (wn_none rfl) (os_alloc (cs := (wC (List.replicate 64 0)).toArray) zB_100 (by kernel_rfl)) rfl ?_; rintro _ _ ⟨bx77, rfl, rfl⟩; refine ⟨[_, _, _], rfl, ?_⟩
            refine et_1 (i := 10) (by kernel_rfl) ?_
            refine ei_iN rfl rfl (wn_none rfl) (os_storew (wC _) ag_100 rfl rfl (by rw [wC_len]; exact layM_len bs) (wC_one _) (by simp [wC_len, w8C_len]) (Free.zero _)) ?_; rintro _ _ ⟨rfl, rfl⟩; refine ⟨[_, _, _], rfl, ?_⟩
            refine et_1 (i := 11) (by kernel_rfl) ?_
            refine ei_iN rfl rfl (wn_none rfl) (os_pull2 (os_storew (wC _) ag_100 rfl rfl (by rw [wC_len]; rfl) (wC_one _) (by simp [wC_len, w8C_len]) (Free.zero _))) ?_; rintro _ _ ⟨rfl, rfl⟩; refine ⟨[_, _, _], rfl, ?_⟩
            refine et_1 (i := 12) (by kernel_rfl) ?_
            refine ei_iN rfl rfl (wn_none rfl) (os_pull2 (os_storew (wC _) ag_91 rfl rfl (by rw [wC_len]; exact q.w.2) (wC_one _) (by simp [wC_len, w8C_len]) (Free.zero _))) ?_; rintro _ _ ⟨rfl, rfl⟩; refine ⟨[_, _, _], rfl, ?_⟩
            refine et_nil (by kernel_rfl) ?_
            refine px_cut (bx77, bx68, bx76) ⟨rfl, rfl, rfl, trivial⟩ ?_ (fun _ s => ((((s.pull 3).pull 1).pull 2).pull 3))
            repeat (first | exact kept_self | exact kept_over | refine kept_upd rfl ?_ | refine kept_overS (by decide) ?_)
          · -- 7
            refine ei_i rfl rfl (wn_none rfl) (os_alloc (cs := (wC (List.replicate 64 0)).toArray) zB_100 (by kernel_rfl)) rfl ?_; rintro _ _ ⟨bx78, rfl, rfl⟩; refine ⟨[_, _, _], rfl, ?_⟩
            refine et_1 (i := 2) (by kernel_rfl) ?_
            refine ei_i rfl rfl (wn_none rfl) (os_call cb_74 rfl (fun w s => keys_calls  s )) rfl ?_; rintro _ l ⟨rfl, rfl⟩; refine ⟨[_, _, _], rfl, ?_⟩
            refine et_1 (i := 10) (by kernel_rfl) ?_
            refine ei_iN rfl rfl (wn_none rfl) (os_storew (wC _) ag_100 rfl rfl (by rw [wC_len]; exact layM_len bs) (wC_one _) (by simp [wC_len, w8C_len]) (Free.zero _)) ?_; rintro _ _ ⟨rfl, rfl⟩; refine ⟨[_, _, _], rfl, ?_⟩
            refine et_1 (i := 11) (by kernel_rfl) ?_
            refine ei_iN rfl rfl (wn_none rfl) (os_pull2 (os_storew (wC _) ag_100 rfl rfl (by rw [wC_len]; rfl) (wC_one _) (by simp [wC_len, w8C_len]) (Free.zero _))) ?_; rintro _ _ ⟨rfl, rfl⟩; refine ⟨[_, _, _], rfl, ?_⟩
            refine et_1 (i := 12) (by kernel_rfl) ?_
            refine ei_iN rfl rfl (wn_none rfl) (os_pull2 (os_storew (wC _) ag_91 rfl rfl (by rw [wC_len]; exact q.w.2) (wC_one _) (by simp [wC_len, w8C_len]) (Free.zero _))) ?_; rintro _ _ ⟨rfl, rfl⟩; refine ⟨[_, _, _], rfl, ?_⟩
            refine et_nil (by kernel_rfl) ?_
            refine px_cut (bx78, bx68, bx76) ⟨rfl, rfl, rfl, trivial⟩ ?_ (fun _ s => ((((s.pull 3).pull 1).pull 2).pull 3))
            repeat (first | exact kept_self | exact kept_over | refine kept_upd rfl ?_ | refine kept_overS (by decide) ?_)
      · -- 7
        refine ei_i rfl rfl (wn_none rfl) (os_alloc (cs := (wC (List.replicate 64 0)).toArray) zB_100 (by kernel_rfl)) rfl ?_; rintro _ _ ⟨bx79, rfl, rfl⟩; refine ⟨[_, _], rfl, ?_⟩
        refine et_2 (i1 := 1) (i2 := 9) (by kernel_rfl) ?_ ?_
        · -- 1
          refine ei_i rfl rfl (wn_none rfl) (os_call cb_73 rfl (fun w s => lay_calls _ _ _  s (((hr.cons _).cons _).cons _) (by assumption))) rfl ?_; rintro _ l ⟨rfl, rfl⟩; refine ⟨[_, _], rfl, ?_⟩
          refine et_2 (i1 := 2) (i2 := 9) (by kernel_rfl) ?_ ?_
          · -- 2
            refine ei_i rfl rfl (wn_none rfl) (os_call cb_74 rfl (fun w s => keys_calls  s )) rfl ?_; rintro _ l ⟨rfl, rfl⟩; refine ⟨[_, _], rfl, ?_⟩
            refine et_1 (i := 9) (by kernel_rfl) ?_
            refine ei_i rfl rfl (wn_none rfl) (os_alloc (cs := (wC (List.replicate 8 0)).toArray) zB_91 (by kernel_rfl)) rfl ?_; rintro _ _ ⟨bx80, rfl, rfl⟩; refine ⟨[_, _, _], rfl, ?_⟩
            refine et_1 (i := 10) (by kernel_rfl) ?_
            refine ei_iN rfl rfl (wn_none rfl) (os_pull1 (os_storew (wC _) ag_100 rfl rfl (by rw [wC_len]; exact layM_len bs) (wC_one _) (by simp [wC_len, w8C_len]) (Free.zero _))) ?_; rintro _ _ ⟨rfl, rfl⟩; refine ⟨[_, _, _], rfl, ?_⟩
            refine et_1 (i := 11) (by kernel_rfl) ?_
            refine ei_iN rfl rfl (wn_none rfl) (os_pull2 (os_storew (wC _) ag_100 rfl rfl (by rw [wC_len]; rfl) (wC_one _) (by simp [wC_len, w8C_len]) (Free.zero _))) ?_; rintro _ _ ⟨rfl, rfl⟩; refine ⟨[_, _, _], rfl, ?_⟩
            refine et_1 (i := 12) (by kernel_rfl) ?_
            refine ei_iN rfl rfl (wn_none rfl) (os_pull2 (os_storew (wC _) ag_91 rfl rfl (by rw [wC_len]; exact q.w.2) (wC_one _) (by simp [wC_len, w8C_len]) (Free.zero _))) ?_; rintro _ _ ⟨rfl, rfl⟩; refine ⟨[_, _, _], rfl, ?_⟩
            refine et_nil (by kernel_rfl) ?_
            refine px_cut (bx79, bx68, bx80) ⟨rfl, rfl, rfl, trivial⟩ ?_ (fun _ s => ((((s.pull 3).pull 1).pull 2).pull 3))
            repeat (first | exact kept_self | exact kept_over | refine kept_upd rfl ?_ | refine kept_overS (by decide) ?_)
          · -- 9
            refine ei_i rfl rfl (wn_none rfl) (os_alloc (cs := (wC (List.replicate 8 0)).toArray) zB_91 (by kernel_rfl)) rfl ?_; rintro _ _ ⟨bx81, rfl, rfl⟩; refine ⟨[_, _, _], rfl, ?_⟩
            refine et_1 (i := 2) (by kernel_rfl) ?_
            refine ei_i rfl rfl (wn_none rfl) (os_call cb_74 rfl (fun w s => keys_calls  s )) rfl ?_; rintro _ l ⟨rfl, rfl⟩; refine ⟨[_, _, _], rfl, ?_⟩
            refine et_1 (i := 10) (by kernel_rfl) ?_
            refine ei_iN rfl rfl (wn_none rfl) (os_pull1 (os_storew (wC _) ag_100 rfl rfl (by rw [wC_len]; exact layM_len bs) (wC_one _) (by simp [wC_len, w8C_len]) (Free.zero _))) ?_; rintro _ _ ⟨rfl, rfl⟩; refine ⟨[_, _, _], rfl, ?_⟩
            refine et_1 (i := 11) (by kernel_rfl) ?_
            refine ei_iN rfl rfl (wn_none rfl) (os_pull2 (os_storew (wC _) ag_100 rfl rfl (by rw [wC_len]; rfl) (wC_one _) (by simp [wC_len, w8C_len]) (Free.zero _))) ?_; rintro _ _ ⟨rfl, rfl⟩; refine ⟨[_, _, _], rfl, ?_⟩
            refine et_1 (i := 12) (by kernel_rfl) ?_
            refine ei_iN rfl rfl (wn_none rfl) (os_pull2 (os_storew (wC _) ag_91 rfl rfl (by rw [wC_len]; exact q.w.2) (wC_one _) (by simp [wC_len, w8C_len]) (Free.zero _))) ?_; rintro _ _ ⟨rfl, rfl⟩; refine ⟨[_, _, _], rfl, ?_⟩
            refine et_nil (by kernel_rfl) ?_
            refine px_cut (bx79, bx68, bx81) ⟨rfl, rfl, rfl, trivial⟩ ?_ (fun _ s => ((((s.pull 3).pull 1).pull 2).pull 3))
            repeat (first | exact kept_self | exact kept_over | refine kept_upd rfl ?_ | refine kept_overS (by decide) ?_)
        · -- 9
          refine ei_i rfl rfl (wn_none rfl) (os_alloc (cs := (wC (List.replicate 8 0)).toArray) zB_91 (by kernel_rfl)) rfl ?_; rintro _ _ ⟨bx82, rfl, rfl⟩; refine ⟨[_, _, _], rfl, ?_⟩
          refine et_1 (i := 1) (by kernel_rfl) ?_
          refine ei_i rfl rfl (wn_none rfl) (os_call cb_73 rfl (fun w s => lay_calls _ _ _  s ((((hr.cons _).cons _).cons _).cons _) (by assumption))) rfl ?_; rintro _ l ⟨rfl, rfl⟩; refine ⟨[_, _, _], rfl, ?_⟩
          refine et_1 (i := 2) (by kernel_rfl) ?_
          refine ei_i rfl rfl (wn_none rfl) (os_call cb_74 rfl (fun w s => keys_calls  s )) rfl ?_; rintro _ l ⟨rfl, rfl⟩; refine ⟨[_, _, _], rfl, ?_⟩
          refine et_1 (i := 10) (by kernel_rfl) ?_
          refine ei_iN rfl rfl (wn_none rfl) (os_pull1 (os_storew (wC _) ag_100 rfl rfl (by rw [wC_len]; exact layM_len bs) (wC_one _) (by simp [wC_len, w8C_len]) (Free.zero _))) ?_; rintro _ _ ⟨rfl, rfl⟩; refine ⟨[_, _, _], rfl, ?_⟩
          refine et_1 (i := 11) (by kernel_rfl) ?_
          refine ei_iN rfl rfl (wn_none rfl) (os_pull2 (os_storew (wC _) ag_100 rfl rfl (by rw [wC_len]; rfl) (wC_one _) (by simp [wC_len, w8C_len]) (Free.zero _))) ?_; rintro _ _ ⟨rfl, rfl⟩; refine ⟨[_, _, _], rfl, ?_⟩
          refine et_1 (i := 12) (by kernel_rfl) ?_
          refine ei_iN rfl rfl (wn_none rfl) (os_pull2 (os_storew (wC _) ag_91 rfl rfl (by rw [wC_len]; exact q.w.2) (wC_one _) (by simp [wC_len, w8C_len]) (Free.zero _))) ?_; rintro _ _ ⟨rfl, rfl⟩; refine ⟨[_, _, _], rfl, ?_⟩
          refine et_nil (by kernel_rfl) ?_
          refine px_cut (bx79, bx68, bx82) ⟨rfl, rfl, rfl, trivial⟩ ?_ (fun _ s => ((((s.pull 3).pull 1).pull 2).pull 3))
          repeat (first | exact kept_self | exact kept_over | refine kept_upd rfl ?_ | refine kept_overS (by decide) ?_)
      · -- 9
        refine ei_i rfl rfl (wn_none rfl) (os_alloc (cs := (wC (List.replicate 8 0)).toArray) zB_91 (by kernel_rfl)) rfl ?_; rintro _ _ ⟨bx83, rfl, rfl⟩; refine ⟨[_, _], rfl, ?_⟩
        refine et_2 (i1 := 1) (i2 := 7) (by kernel_rfl) ?_ ?_
        · -- 1
          refine ei_i rfl rfl (wn_none rfl) (os_call cb_73 rfl (fun w s => lay_calls _ _ _  s (((hr.cons _).cons _).cons _) (by assumption))) rfl ?_; rintro _ l ⟨rfl, rfl⟩; refine ⟨[_, _], rfl, ?_⟩
          refine et_2 (i1 := 2) (i2 := 7) (by kernel_rfl) ?_ ?_
          · -- 2
            refine ei_i rfl rfl (wn_none rfl) (os_call cb_74 rfl (fun w s => keys_calls  s )) rfl ?_; rintro _ l ⟨rfl, rfl⟩; refine ⟨[_, _], rfl, ?_⟩
            refine et_1 (i := 7) (by kernel_rfl) ?_
            refine ei_i rfl rfl (wn_none rfl) (os_alloc (cs := (wC (List.replicate 64 0)).toArray) zB_100 (by kernel_rfl)) rfl ?_; rintro _ _ ⟨bx84, rfl, rfl⟩; refine ⟨[_, _, _], rfl, ?_⟩
            refine et_1 (i := 10) (by kernel_rfl) ?_
            refine ei_iN rfl rfl (wn_none rfl) (os_storew (wC _) ag_100 rfl rfl (by rw [wC_len]; exact layM_len bs) (wC_one _) (by simp [wC_len, w8C_len]) (Free.zero _)) ?_; rintro _ _ ⟨rfl, rfl⟩; refine ⟨[_, _, _], rfl, ?_⟩
            refine et_1 (i := 11) (by kernel_rfl) ?_
            refine ei_iN rfl rfl (wn_none rfl) (os_pull2 (os_storew (wC _) ag_100 rfl rfl (by rw [wC_len]; rfl) (wC_one _) (by simp [wC_len, w8C_len]) (Free.zero _))) ?_; rintro _ _ ⟨rfl, rfl⟩; refine ⟨[_, _, _], rfl, ?_⟩
            refine et_1 (i := 12) (by kernel_rfl) ?_
            refine ei_iN rfl rfl (wn_none rfl) (os_pull2 (os_storew (wC _) ag_91 rfl rfl (by rw [wC_len]; exact q.w.2) (wC_one _) (by simp [wC_len, w8C_len]) (Free.zero _))) ?_; rintro _ _ ⟨rfl, rfl⟩; refine ⟨[_, _, _], rfl, ?_⟩
            refine et_nil (by kernel_rfl) ?_
            refine px_cut (bx84, bx68, bx83) ⟨rfl, rfl, rfl, trivial⟩ ?_ (fun _ s => ((((s.pull 3).pull 1).pull 2).pull 3))
            repeat (first | exact kept_self | exact kept_over | refine kept_upd rfl ?_ | refine kept_overS (by decide) ?_)
          · -- 7
            refine ei_i rfl rfl (wn_none rfl) (os_alloc (cs := (wC (List.replicate 64 0)).toArray) zB_100 (by kernel_rfl)) rfl ?_; rintro _ _ ⟨bx85, rfl, rfl⟩; refine ⟨[_, _, _], rfl, ?_⟩
            refine et_1 (i := 2) (by kernel_rfl) ?_
            refine ei_i rfl rfl (wn_none rfl) (os_call cb_74 rfl (fun w s => keys_calls  s )) rfl ?_; rintro _ l ⟨rfl, rfl⟩; refine ⟨[_, _, _], rfl, ?_⟩
            refine et_1 (i := 10) (by kernel_rfl) ?_
            refine ei_iN rfl rfl (wn_none rfl) (os_storew (wC _) ag_100 rfl rfl (by rw [wC_len]; exact layM_len bs) (wC_one _) (by simp [wC_len, w8C_len]) (Free.zero _)) ?_; rintro _ _ ⟨rfl, rfl⟩; refine ⟨[_, _, _], rfl, ?_⟩
            refine et_1 (i := 11) (by kernel_rfl) ?_
            refine ei_iN rfl rfl (wn_none rfl) (os_pull2 (os_storew (wC _) ag_100 rfl rfl (by rw [wC_len]; rfl) (wC_one _) (by simp [wC_len, w8C_len]) (Free.zero _))) ?_; rintro _ _ ⟨rfl, rfl⟩; refine ⟨[_, _, _], rfl, ?_⟩
            refine et_1 (i := 12) (by kernel_rfl) ?_
            refine ei_iN rfl rfl (wn_none rfl) (os_pull2 (os_storew (wC _) ag_91 rfl rfl (by rw [wC_len]; exact q.w.2) (wC_one _) (by simp [wC_len, w8C_len]) (Free.zero _))) ?_; rintro _ _ ⟨rfl, rfl⟩; refine ⟨[_, _, _], rfl, ?_⟩
            refine et_nil (by kernel_rfl) ?_
            refine px_cut (bx85, bx68, bx83) ⟨rfl, rfl, rfl, trivial⟩ ?_ (fun _ s => ((((s.pull 3).pull 1).pull 2).pull 3))
            repeat (first | exact kept_self | exact kept_over | refine kept_upd rfl ?_ | refine kept_overS (by decide) ?_)
        · -- 7
          refine ei_i rfl rfl (wn_none rfl) (os_alloc (cs := (wC (List.replicate 64 0)).toArray) zB_100 (by kernel_rfl)) rfl ?_; rintro _ _ ⟨bx86, rfl, rfl⟩; refine ⟨[_, _, _], rfl, ?_⟩
          refine et_1 (i := 1) (by kernel_rfl) ?_
          refine ei_i rfl rfl (wn_none rfl) (os_call cb_73 rfl (fun w s => lay_calls _ _ _  s ((((hr.cons _).cons _).cons _).cons _) (by assumption))) rfl ?_; rintro _ l ⟨rfl, rfl⟩; refine ⟨[_, _, _], rfl, ?_⟩
          refine et_1 (i := 2) (by kernel_rfl) ?_
          refine ei_i rfl rfl (wn_none rfl) (os_call cb_74 rfl (fun w s => keys_calls  s )) rfl ?_; rintro _ l ⟨rfl, rfl⟩; refine ⟨[_, _, _], rfl, ?_⟩
          refine et_1 (i := 10) (by kernel_rfl) ?_
          refine ei_iN rfl rfl (wn_none rfl) (os_storew (wC _) ag_100 rfl rfl (by rw [wC_len]; exact layM_len bs) (wC_one _) (by simp [wC_len, w8C_len]) (Free.zero _)) ?_; rintro _ _ ⟨rfl, rfl⟩; refine ⟨[_, _, _], rfl, ?_⟩
          refine et_1 (i := 11) (by kernel_rfl) ?_
          refine ei_iN rfl rfl (wn_none rfl) (os_pull2 (os_storew (wC _) ag_100 rfl rfl (by rw [wC_len]; rfl) (wC_one _) (by simp [wC_len, w8C_len]) (Free.zero _))) ?_; rintro _ _ ⟨rfl, rfl⟩; refine ⟨[_, _, _], rfl, ?_⟩
          refine et_1 (i := 12) (by kernel_rfl) ?_
          refine ei_iN rfl rfl (wn_none rfl) (os_pull2 (os_storew (wC _) ag_91 rfl rfl (by rw [wC_len]; exact q.w.2) (wC_one _) (by simp [wC_len, w8C_len]) (Free.zero _))) ?_; rintro _ _ ⟨rfl, rfl⟩; refine ⟨[_, _, _], rfl, ?_⟩
          refine et_nil (by kernel_rfl) ?_
          refine px_cut (bx86, bx68, bx83) ⟨rfl, rfl, rfl, trivial⟩ ?_ (fun _ s => ((((s.pull 3).pull 1).pull 2).pull 3))
          repeat (first | exact kept_self | exact kept_over | refine kept_upd rfl ?_ | refine kept_overS (by decide) ?_)
    · -- 9
      refine ei_i rfl rfl (wn_none rfl) (os_alloc (cs := (wC (List.replicate 8 0)).toArray) zB_91 (by kernel_rfl)) rfl ?_; rintro _ _ ⟨bx87, rfl, rfl⟩; refine ⟨[_], rfl, ?_⟩
      refine et_3 (i1 := 1) (i2 := 7) (i3 := 8) (by kernel_rfl) ?_ ?_ ?_
      · -- 1
        refine ei_i rfl rfl (wn_none rfl) (os_call cb_73 rfl (fun w s => lay_calls _ _ _  s ((hr.cons _).cons _) (by assumption))) rfl ?_; rintro _ l ⟨rfl, rfl⟩; refine ⟨[_], rfl, ?_⟩
        refine et_3 (i1 := 2) (i2 := 7) (i3 := 8) (by kernel_rfl) ?_ ?_ ?_
        · -- 2
          refine ei_i rfl rfl (wn_none rfl) (os_call cb_74 rfl (fun w s => keys_calls  s )) rfl ?_; rintro _ l ⟨rfl, rfl⟩; refine ⟨[_], rfl, ?_⟩
          refine et_2 (i1 := 7) (i2 := 8) (by kernel_rfl) ?_ ?_
          · -- 7
            refine ei_i rfl rfl (wn_none rfl) (os_alloc (cs := (wC (List.replicate 64 0)).toArray) zB_100 (by kernel_rfl)) rfl ?_; rintro _ _ ⟨bx88, rfl, rfl⟩; refine ⟨[_, _], rfl, ?_⟩
            refine et_1 (i := 8) (by kernel_rfl) ?_
            refine ei_i rfl rfl (wn_none rfl) (os_alloc (cs := (wC (List.replicate 64 0)).toArray) zB_100 (by kernel_rfl)) rfl ?_; rintro _ _ ⟨bx89, rfl, rfl⟩; refine ⟨[_, _, _], rfl, ?_⟩
            refine et_1 (i := 10) (by kernel_rfl) ?_
            refine ei_iN rfl rfl (wn_none rfl) (os_pull1 (os_storew (wC _) ag_100 rfl rfl (by rw [wC_len]; exact layM_len bs) (wC_one _) (by simp [wC_len, w8C_len]) (Free.zero _))) ?_; rintro _ _ ⟨rfl, rfl⟩; refine ⟨[_, _, _], rfl, ?_⟩
            refine et_1 (i := 11) (by kernel_rfl) ?_
            refine ei_iN rfl rfl (wn_none rfl) (os_pull1 (os_storew (wC _) ag_100 rfl rfl (by rw [wC_len]; rfl) (wC_one _) (by simp [wC_len, w8C_len]) (Free.zero _))) ?_; rintro _ _ ⟨rfl, rfl⟩; refine ⟨[_, _, _], rfl, ?_⟩
            refine et_1 (i := 12) (by kernel_rfl) ?_
            refine ei_iN rfl rfl (wn_none rfl) (os_pull2 (os_storew (wC _) ag_91 rfl rfl (by rw [wC_len]; exact q.w.2) (wC_one _) (by simp [wC_len, w8C_len]) (Free.zero _))) ?_; rintro _ _ ⟨rfl, rfl⟩; refine ⟨[_, _, _], rfl, ?_⟩
            refine et_nil (by kernel_rfl) ?_
            refine px_cut (bx88, bx89, bx87) ⟨rfl, rfl, rfl, trivial⟩ ?_ (fun _ s => ((((s.pull 3).pull 1).pull 2).pull 3))
            repeat (first | exact kept_self | exact kept_over | refine kept_upd rfl ?_ | refine kept_overS (by decide) ?_)
          · -- 8
            refine ei_i rfl rfl (wn_none rfl) (os_alloc (cs := (wC (List.replicate 64 0)).toArray) zB_100 (by kernel_rfl)) rfl ?_; rintro _ _ ⟨bx90, rfl, rfl⟩; refine ⟨[_, _], rfl, ?_⟩
            refine et_1 (i := 7) (by kernel_rfl) ?_
            refine ei_i rfl rfl (wn_none rfl) (os_alloc (cs := (wC (List.replicate 64 0)).toArray) zB_100 (by kernel_rfl)) rfl ?_; rintro _ _ ⟨bx91, rfl, rfl⟩; refine ⟨[_, _, _], rfl, ?_⟩
            refine et_1 (i := 10) (by kernel_rfl) ?_
            refine ei_iN rfl rfl (wn_none rfl) (os_storew (wC _) ag_100 rfl rfl (by rw [wC_len]; exact layM_len bs) (wC_one _) (by simp [wC_len, w8C_len]) (Free.zero _)) ?_; rintro _ _ ⟨rfl, rfl⟩; refine ⟨[_, _, _], rfl, ?_⟩
            refine et_1 (i := 11) (by kernel_rfl) ?_
            refine ei_iN rfl rfl (wn_none rfl) (os_pull1 (os_storew (wC _) ag_100 rfl rfl (by rw [wC_len]; rfl) (wC_one _) (by simp [wC_len, w8C_len]) (Free.zero _))) ?_; rintro _ _ ⟨rfl, rfl⟩; refine ⟨[_, _, _], rfl, ?_⟩
            refine et_1 (i := 12) (by kernel_rfl) ?_
            refine ei_iN rfl rfl (wn_none rfl) (os_pull2 (os_storew (wC _) ag_91 rfl rfl (by rw [wC_len]; exact q.w.2) (wC_one _) (by simp [wC_len, w8C_len]) (Free.zero _))) ?_; rintro _ _ ⟨rfl, rfl⟩; refine ⟨[_, _, _], rfl, ?_⟩
            refine et_nil (by kernel_rfl) ?_
            refine px_cut (bx91, bx90, bx87) ⟨rfl, rfl, rfl, trivial⟩ ?_ (fun _ s => ((((s.pull 3).pull 1).pull 2).pull 3))
            repeat (first | exact kept_self | exact kept_over | refine kept_upd rfl ?_ | refine kept_overS (by decide) ?_)
        · -- 7
          refine ei_i rfl rfl (wn_none rfl) (os_alloc (cs := (wC (List.replicate 64 0)).toArray) zB_100 (by kernel_rfl)) rfl ?_; rintro _ _ ⟨bx92, rfl, rfl⟩; refine ⟨[_, _], rfl, ?_⟩
          refine et_2 (i1 := 2) (i2 := 8) (by kernel_rfl) ?_ ?_
          · -- 2
            refine ei_i rfl rfl (wn_none rfl) (os_call cb_74 rfl (fun w s => keys_calls  s )) rfl ?_; rintro _ l ⟨rfl, rfl⟩; refine ⟨[_, _], rfl, ?_⟩
            refine et_1 (i := 8) (by kernel_rfl) ?_
            refine ei_i rfl rfl (wn_none rfl) (os_alloc (cs := (wC (List.replicate 64 0)).toArray) zB_100 (by kernel_rfl)) rfl ?_; rintro _ _ ⟨bx93, rfl, rfl⟩; refine ⟨[_, _, _], rfl, ?_⟩
            refine et_1 (i := 10) (by kernel_rfl) ?_
            refine ei_iN rfl rfl (wn_none rfl) (os_pull1 (os_storew (wC _) ag_100 rfl rfl (by rw [wC_len]; exact layM_len bs) (wC_one _) (by simp [wC_len, w8C_len]) (Free.zero _))) ?_; rintro _ _ ⟨rfl, rfl⟩; refine ⟨[_, _, _], rfl, ?_⟩
            refine et_1 (i := 11) (by kernel_rfl) ?_
            refine ei_iN rfl rfl (wn_none rfl) (os_pull1 (os_storew (wC _) ag_100 rfl rfl (by rw [wC_len]; rfl) (wC_one _) (by simp [wC_len, w8C_len]) (Free.zero _))) ?_; rintro _ _ ⟨rfl, rfl⟩; refine ⟨[_, _, _], rfl, ?_⟩
            refine et_1 (i := 12) (by kernel_rfl) ?_
            refine ei_iN rfl rfl (wn_none rfl) (os_pull2 (os_storew (wC _) ag_91 rfl rfl (by rw [wC_len]; exact q.w.2) (wC_one _) (by simp [wC_len, w8C_len]) (Free.zero _))) ?_; rintro _ _ ⟨rfl, rfl⟩; refine ⟨[_, _, _], rfl, ?_⟩
            refine et_nil (by kernel_rfl) ?_
            refine px_cut (bx92, bx93, bx87) ⟨rfl, rfl, rfl, trivial⟩ ?_ (fun _ s => ((((s.pull 3).pull 1).pull 2).pull 3))
            repeat (first | exact kept_self | exact kept_over | refine kept_upd rfl ?_ | refine kept_overS (by decide) ?_)
          · -- 8
            refine ei_i rfl rfl (wn_none rfl) (os_alloc (cs := (wC (List.replicate 64 0)).toArray) zB_100 (by kernel_rfl)) rfl ?_; rintro _ _ ⟨bx94, rfl, rfl⟩; refine ⟨[_, _, _], rfl, ?_⟩
            refine et_1 (i := 2) (by kernel_rfl) ?_
            refine ei_i rfl rfl (wn_none rfl) (os_call cb_74 rfl (fun w s => keys_calls  s )) rfl ?_; rintro _ l ⟨rfl, rfl⟩; refine ⟨[_, _, _], rfl, ?_⟩
            refine et_1 (i := 10) (by kernel_rfl) ?_
            refine ei_iN rfl rfl (wn_none rfl) (os_pull1 (os_storew (wC _) ag_100 rfl rfl (by rw [wC_len]; exact layM_len bs) (wC_one _) (by simp [wC_len, w8C_len]) (Free.zero _))) ?_; rintro _ _ ⟨rfl, rfl⟩; refine ⟨[_, _, _], rfl, ?_⟩
            refine et_1 (i := 11) (by kernel_rfl) ?_
            refine ei_iN rfl rfl (wn_none rfl) (os_pull1 (os_storew (wC _) ag_100 rfl rfl (by rw [wC_len]; rfl) (wC_one _) (by simp [wC_len, w8C_len]) (Free.zero _))) ?_; rintro _ _ ⟨rfl, rfl⟩; refine ⟨[_, _, _], rfl, ?_⟩
            refine et_1 (i := 12) (by kernel_rfl) ?_
            refine ei_iN rfl rfl (wn_none rfl) (os_pull2 (os_storew (wC _) ag_91 rfl rfl (by rw [wC_len]; exact q.w.2) (wC_one _) (by simp [wC_len, w8C_len]) (Free.zero _))) ?_; rintro _ _ ⟨rfl, rfl⟩; refine ⟨[_, _, _], rfl, ?_⟩
            refine et_nil (by kernel_rfl) ?_
            refine px_cut (bx92, bx94, bx87) ⟨rfl, rfl, rfl, trivial⟩ ?_ (fun _ s => ((((s.pull 3).pull 1).pull 2).pull 3))
            repeat (first | exact kept_self | exact kept_over | refine kept_upd rfl ?_ | refine kept_overS (by decide) ?_)
        · -- 8
          refine ei_i rfl rfl (wn_none rfl) (os_alloc (cs := (wC (List.replicate 64 0)).toArray) zB_100 (by kernel_rfl)) rfl ?_; rintro _ _ ⟨bx95, rfl, rfl⟩; refine ⟨[_, _], rfl, ?_⟩
          refine et_2 (i1 := 2) (i2 := 7) (by kernel_rfl) ?_ ?_
          · -- 2
            refine ei_i rfl rfl (wn_none rfl) (os_call cb_74 rfl (fun w s => keys_calls  s )) rfl ?_; rintro _ l ⟨rfl, rfl⟩; refine ⟨[_, _], rfl, ?_⟩
            refine et_1 (i := 7) (by kernel_rfl) ?_
            refine ei_i rfl rfl (wn_none rfl) (os_alloc (cs := (wC (List.replicate 64 0)).toArray) zB_100 (by kernel_rfl)) rfl ?_; rintro _ _ ⟨bx96, rfl, rfl⟩; refine ⟨[_, _, _], rfl, ?_⟩
            refine et_1 (i := 10) (by kernel_rfl) ?_
            refine ei_iN rfl rfl (wn_none rfl) (os_storew (wC _) ag_100 rfl rfl (by rw [wC_len]; exact layM_len bs) (wC_one _) (by simp [wC_len, w8C_len]) (Free.zero _)) ?_; rintro _ _ ⟨rfl, rfl⟩; refine ⟨[_, _, _], rfl, ?_⟩
            refine et_1 (i := 11) (by kernel_rfl) ?_
            refine ei_iN rfl rfl (wn_none rfl) (os_pull1 (os_storew (wC _) ag_100 rfl rfl (by rw [wC_len]; rfl) (wC_one _) (by simp [wC_len, w8C_len]) (Free.zero _))) ?_; rintro _ _ ⟨rfl, rfl⟩; refine ⟨[_, _, _], rfl, ?_⟩
            refine et_1 (i := 12) (by kernel_rfl) ?_
            refine ei_iN rfl rfl (wn_none rfl) (os_pull2 (os_storew (wC _) ag_91 rfl rfl (by rw [wC_len]; exact q.w.2) (wC_one _) (by simp [wC_len, w8C_len]) (Free.zero _))) ?_; rintro _ _ ⟨rfl, rfl⟩; refine ⟨[_, _, _], rfl, ?_⟩
            refine et_nil (by kernel_rfl) ?_
            refine px_cut (bx96, bx95, bx87) ⟨rfl, rfl, rfl, trivial⟩ ?_ (fun _ s => ((((s.pull 3).pull 1).pull 2).pull 3))
            repeat (first | exact kept_self | exact kept_over | refine kept_upd rfl ?_ | refine kept_overS (by decide) ?_)
          · -- 7
            refine ei_i rfl rfl (wn_none rfl) (os_alloc (cs := (wC (List.replicate 64 0)).toArray) zB_100 (by kernel_rfl)) rfl ?_; rintro _ _ ⟨bx97, rfl, rfl⟩; refine ⟨[_, _, _], rfl, ?_⟩
            refine et_1 (i := 2) (by kernel_rfl) ?_
            refine ei_i rfl rfl (wn_none rfl) (os_call cb_74 rfl (fun w s => keys_calls  s )) rfl ?_; rintro _ l ⟨rfl, rfl⟩; refine ⟨[_, _, _], rfl, ?_⟩
            refine et_1 (i := 10) (by kernel_rfl) ?_
            refine ei_iN rfl rfl (wn_none rfl) (os_storew (wC _) ag_100 rfl rfl (by rw [wC_len]; exact layM_len bs) (wC_one _) (by simp [wC_len, w8C_len]) (Free.zero _)) ?_; rintro _ _ ⟨rfl, rfl⟩; refine ⟨[_, _, _], rfl, ?_⟩
            refine et_1 (i := 11) (by kernel_rfl) ?_
            refine ei_iN rfl rfl (wn_none rfl) (os_pull1 (os_storew (wC _) ag_100 rfl rfl (by rw [wC_len]; rfl) (wC_one _) (by simp [wC_len, w8C_len]) (Free.zero _))) ?_; rintro _ _ ⟨rfl, rfl⟩; refine ⟨[_, _, _], rfl, ?_⟩
            refine et_1 (i := 12) (by kernel_rfl) ?_
            refine ei_iN rfl rfl (wn_none rfl) (os_pull2 (os_storew (wC _) ag_91 rfl rfl (by rw [wC_len]; exact q.w.2) (wC_one _) (by simp [wC_len, w8C_len]) (Free.zero _))) ?_; rintro _ _ ⟨rfl, rfl⟩; refine ⟨[_, _, _], rfl, ?_⟩
            refine et_nil (by kernel_rfl) ?_
            refine px_cut (bx97, bx95, bx87) ⟨rfl, rfl, rfl, trivial⟩ ?_ (fun _ s => ((((s.pull 3).pull 1).pull 2).pull 3))
            repeat (first | exact kept_self | exact kept_over | refine kept_upd rfl ?_ | refine kept_overS (by decide) ?_)
      · -- 7
        refine ei_i rfl rfl (wn_none rfl) (os_alloc (cs := (wC (List.replicate 64 0)).toArray) zB_100 (by kernel_rfl)) rfl ?_; rintro _ _ ⟨bx98, rfl, rfl⟩; refine ⟨[_, _], rfl, ?_⟩
        refine et_2 (i1 := 1) (i2 := 8) (by kernel_rfl) ?_ ?_
        · -- 1
          refine ei_i rfl rfl (wn_none rfl) (os_call cb_73 rfl (fun w s => lay_calls _ _ _  s (((hr.cons _).cons _).cons _) (by assumption))) rfl ?_; rintro _ l ⟨rfl, rfl⟩; refine ⟨[_, _], rfl, ?_⟩
          refine et_2 (i1 := 2) (i2 := 8) (by kernel_rfl) ?_ ?_
          · -- 2
            refine ei_i rfl rfl (wn_none rfl) (os_call cb_74 rfl (fun w s => keys_calls  s )) rfl ?_; rintro _ l ⟨rfl, rfl⟩; refine ⟨[_, _], rfl, ?_⟩
            refine et_1 (i := 8) (by kernel_rfl) ?_
            refine ei_i rfl rfl (wn_none rfl) (os_alloc (cs := (wC (List.replicate 64 0)).toArray) zB_100 (by kernel_rfl)) rfl ?_; rintro _ _ ⟨bx99, rfl, rfl⟩; refine ⟨[_, _, _], rfl, ?_⟩
            refine et_1 (i := 10) (by kernel_rfl) ?_
            refine ei_iN rfl rfl (wn_none rfl) (os_pull1 (os_storew (wC _) ag_100 rfl rfl (by rw [wC_len]; exact layM_len bs) (wC_one _) (by simp [wC_len, w8C_len]) (Free.zero _))) ?_; rintro _ _ ⟨rfl, rfl⟩; refine ⟨[_, _, _], rfl, ?_⟩
            refine et_1 (i := 11) (by kernel_rfl) ?_
            refine ei_iN rfl rfl (wn_none rfl) (os_pull1 (os_storew (wC _) ag_100 rfl rfl (by rw [wC_len]; rfl) (wC_one _) (by simp [wC_len, w8C_len]) (Free.zero _))) ?_; rintro _ _ ⟨rfl, rfl⟩; refine ⟨[_, _, _], rfl, ?_⟩
            refine et_1 (i := 12) (by kernel_rfl) ?_
            refine ei_iN rfl rfl (wn_none rfl) (os_pull2 (os_storew (wC _) ag_91 rfl rfl (by rw [wC_len]; exact q.w.2) (wC_one _) (by simp [wC_len, w8C_len]) (Free.zero _))) ?_; rintro _ _ ⟨rfl, rfl⟩; refine ⟨[_, _, _], rfl, ?_⟩
            refine et_nil (by kernel_rfl) ?_
            refine px_cut (bx98, bx99, bx87) ⟨rfl, rfl, rfl, trivial⟩ ?_ (fun _ s => ((((s.pull 3).pull 1).pull 2).pull 3))
            repeat (first | exact kept_self | exact kept_over | refine kept_upd rfl ?_ | refine kept_overS (by decide) ?_)
          · -- 8
            refine ei_i rfl rfl (wn_none rfl) (os_alloc (cs := (wC (List.replicate 64 0)).toArray) zB_100 (by kernel_rfl)) rfl ?_; rintro _ _ ⟨bx100, rfl, rfl⟩; refine ⟨[_, _, _], rfl, ?_⟩
            refine et_1 (i := 2) (by kernel_rfl) ?_
            refine ei_i rfl rfl (wn_none rfl) (os_call cb_74 rfl (fun w s => keys_calls  s )) rfl ?_; rintro _ l ⟨rfl, rfl⟩; refine ⟨[_, _, _], rfl, ?_⟩
            refine et_1 (i := 10) (by kernel_rfl) ?_
            refine ei_iN rfl rfl (wn_none rfl) (os_pull1 (os_storew (wC _) ag_100 rfl rfl (by rw [wC_len]; exact layM_len bs) (wC_one _) (by simp [wC_len, w8C_len]) (Free.zero _))) ?_; rintro _ _ ⟨rfl, rfl⟩; refine ⟨[_, _, _], rfl, ?_⟩
            refine et_1 (i := 11) (by kernel_rfl) ?_
            refine ei_iN rfl rfl (wn_none rfl) (os_pull1 (os_storew (wC _) ag_100 rfl rfl (by rw [wC_len]; rfl) (wC_one _) (by simp [wC_len, w8C_len]) (Free.zero _))) ?_; rintro _ _ ⟨rfl, rfl⟩; refine ⟨[_, _, _], rfl, ?_⟩
            refine et_1 (i := 12) (by kernel_rfl) ?_
            refine ei_iN rfl rfl (wn_none rfl) (os_pull2 (os_storew (wC _) ag_91 rfl rfl (by rw [wC_len]; exact q.w.2) (wC_one _) (by simp [wC_len, w8C_len]) (Free.zero _))) ?_; rintro _ _ ⟨rfl, rfl⟩; refine ⟨[_, _, _], rfl, ?_⟩
            refine et_nil (by kernel_rfl) ?_
            refine px_cut (bx98, bx100, bx87) ⟨rfl, rfl, rfl, trivial⟩ ?_ (fun _ s => ((((s.pull 3).pull 1).pull 2).pull 3))
            repeat (first | exact kept_self | exact kept_over | refine kept_upd rfl ?_ | refine kept_overS (by decide) ?_)
        · -- 8
          refine ei_i rfl rfl (wn_none rfl) (os_alloc (cs := (wC (List.replicate 64 0)).toArray) zB_100 (by kernel_rfl)) rfl ?_; rintro _ _ ⟨bx101, rfl, rfl⟩; refine ⟨[_, _, _], rfl, ?_⟩
          refine et_1 (i := 1) (by kernel_rfl) ?_
          refine ei_i rfl rfl (wn_none rfl) (os_call cb_73 rfl (fun w s => lay_calls _ _ _  s ((((hr.cons _).cons _).cons _).cons _) (by assumption))) rfl ?_; rintro _ l ⟨rfl, rfl⟩; refine ⟨[_, _, _], rfl, ?_⟩
          refine et_1 (i := 2) (by kernel_rfl) ?_
          refine ei_i rfl rfl (wn_none rfl) (os_call cb_74 rfl (fun w s => keys_calls  s )) rfl ?_; rintro _ l ⟨rfl, rfl⟩; refine ⟨[_, _, _], rfl, ?_⟩
          refine et_1 (i := 10) (by kernel_rfl) ?_
          refine ei_iN rfl rfl (wn_none rfl) (os_pull1 (os_storew (wC _) ag_100 rfl rfl (by rw [wC_len]; exact layM_len bs) (wC_one _) (by simp [wC_len, w8C_len]) (Free.zero _))) ?_; rintro _ _ ⟨rfl, rfl⟩; refine ⟨[_, _, _], rfl, ?_⟩
          refine et_1 (i := 11) (by kernel_rfl) ?_
          refine ei_iN rfl rfl (wn_none rfl) (os_pull1 (os_storew (wC _) ag_100 rfl rfl (by rw [wC_len]; rfl) (wC_one _) (by simp [wC_len, w8C_len]) (Free.zero _))) ?_; rintro _ _ ⟨rfl, rfl⟩; refine ⟨[_, _, _], rfl, ?_⟩
          refine et_1 (i := 12) (by kernel_rfl) ?_
          refine ei_iN rfl rfl (wn_none rfl) (os_pull2 (os_storew (wC _) ag_91 rfl rfl (by rw [wC_len]; exact q.w.2) (wC_one _) (by simp [wC_len, w8C_len]) (Free.zero _))) ?_; rintro _ _ ⟨rfl, rfl⟩; refine ⟨[_, _, _], rfl, ?_⟩
          refine et_nil (by kernel_rfl) ?_
          refine px_cut (bx98, bx101, bx87) ⟨rfl, rfl, rfl, trivial⟩ ?_ (fun _ s => ((((s.pull 3).pull 1).pull 2).pull 3))
          repeat (first | exact kept_self | exact kept_over | refine kept_upd rfl ?_ | refine kept_overS (by decide) ?_)
      · -- 8
        refine ei_i rfl rfl (wn_none rfl) (os_alloc (cs := (wC (List.replicate 64 0)).toArray) zB_100 (by kernel_rfl)) rfl ?_; rintro _ _ ⟨bx102, rfl, rfl⟩; refine ⟨[_, _], rfl, ?_⟩
        refine et_2 (i1 := 1) (i2 := 7) (by kernel_rfl) ?_ ?_
        · -- 1
          refine ei_i rfl rfl (wn_none rfl) (os_call cb_73 rfl (fun w s => lay_calls _ _ _  s (((hr.cons _).cons _).cons _) (by assumption))) rfl ?_; rintro _ l ⟨rfl, rfl⟩; refine ⟨[_, _], rfl, ?_⟩
          refine et_2 (i1 := 2) (i2 := 7) (by kernel_rfl) ?_ ?_
          · -- 2
            refine ei_i rfl rfl (wn_none rfl) (os_call cb_74 rfl (fun w s => keys_calls  s )) rfl ?_; rintro _ l ⟨rfl, rfl⟩; refine ⟨[_, _], rfl, ?_⟩
            refine et_1 (i := 7) (by kernel_rfl) ?_
            refine ei_i rfl rfl (wn_none rfl) (os_alloc (cs := (wC (List.replicate 64 0)).toArray) zB_100 (by kernel_rfl)) rfl ?_; rintro _ _ ⟨bx103, rfl, rfl⟩; refine ⟨[_, _, _], rfl, ?_⟩
            refine et_1 (i := 10) (by kernel_rfl) ?_
            refine ei_iN rfl rfl (wn_none rfl) (os_storew (wC _) ag_100 rfl rfl (by rw [wC_len]; exact layM_len bs) (wC_one _) (by simp [wC_len, w8C_len]) (Free.zero _)) ?_; rintro _ _ ⟨rfl, rfl⟩; refine ⟨[_, _, _], rfl, ?_⟩
            refine et_1 (i := 11) (by kernel_rfl) ?_
            refine ei_iN rfl rfl (wn_none rfl) (os_pull1 (os_storew (wC _) ag_100 rfl rfl (by rw [wC_len]; rfl) (wC_one _) (by simp [wC_len, w8C_len]) (Free.zero _))) ?_; rintro _ _ ⟨rfl, rfl⟩; refine ⟨[_, _, _], rfl, ?_⟩
            refine et_1 (i := 12) (by kernel_rfl) ?_
            refine ei_iN rfl rfl (wn_none rfl) (os_pull2 (os_storew (wC _) ag_91 rfl rfl (by rw [wC_len]; exact q.w.2) (wC_one _) (by simp [wC_len, w8C_len]) (Free.zero _))) ?_; rintro _ _ ⟨rfl, rfl⟩; refine ⟨[_, _, _], rfl, ?_⟩
            refine et_nil (by kernel_rfl) ?_
            refine px_cut (bx103, bx102, bx87) ⟨rfl, rfl, rfl, trivial⟩ ?_ (fun _ s => ((((s.pull 3).pull 1).pull 2).pull 3))
            repeat (first | exact kept_self | exact kept_over | refine kept_upd rfl ?_ | refine kept_overS (by decide) ?_)
          · -- 7
            refine ei_i rfl rfl (wn_none rfl) (os_alloc (cs := (wC (List.replicate 64 0)).toArray) zB_100 (by kernel_rfl)) rfl ?_; rintro _ _ ⟨bx104, rfl, rfl⟩; refine ⟨[_, _, _], rfl, ?_⟩
            refine et_1 (i := 2) (by kernel_rfl) ?_
            refine ei_i rfl rfl (wn_none rfl) (os_call cb_74 rfl (fun w s => keys_calls  s )) rfl ?_; rintro _ l ⟨rfl, rfl⟩; refine ⟨[_, _, _], rfl, ?_⟩
            refine et_1 (i := 10) (by kernel_rfl) ?_
            refine ei_iN rfl rfl (wn_none rfl) (os_storew (wC _) ag_100 rfl rfl (by rw [wC_len]; exact layM_len bs) (wC_one _) (by simp [wC_len, w8C_len]) (Free.zero _)) ?_; rintro _ _ ⟨rfl, rfl⟩; refine ⟨[_, _, _], rfl, ?_⟩
            refine et_1 (i := 11) (by kernel_rfl) ?_
            refine ei_iN rfl rfl (wn_none rfl) (os_pull1 (os_storew (wC _) ag_100 rfl rfl (by rw [wC_len]; rfl) (wC_one _) (by simp [wC_len, w8C_len]) (Free.zero _))) ?_; rintro _ _ ⟨rfl, rfl⟩; refine ⟨[_, _, _], rfl, ?_⟩
            refine et_1 (i := 12) (by kernel_rfl) ?_
            refine ei_iN rfl rfl (wn_none rfl) (os_pull2 (os_storew (wC _) ag_91 rfl rfl (by rw [wC_len]; exact q.w.2) (wC_one _) (by simp [wC_len, w8C_len]) (Free.zero _))) ?_; rintro _ _ ⟨rfl, rfl⟩; refine ⟨[_, _, _], rfl, ?_⟩
            refine et_nil (by kernel_rfl) ?_
            refine px_cut (bx104, bx102, bx87) ⟨rfl, rfl, rfl, trivial⟩ ?_ (fun _ s => ((((s.pull 3).pull 1).pull 2).pull 3))
            repeat (first | exact kept_self | exact kept_over | refine kept_upd rfl ?_ | refine kept_overS (by decide) ?_)
        · -- 7
          refine ei_i rfl rfl (wn_none rfl) (os_alloc (cs := (wC (List.replicate 64 0)).toArray) zB_100 (by kernel_rfl)) rfl ?_; rintro _ _ ⟨bx105, rfl, rfl⟩; refine ⟨[_, _, _], rfl, ?_⟩
          refine et_1 (i := 1) (by kernel_rfl) ?_
          refine ei_i rfl rfl (wn_none rfl) (os_call cb_73 rfl (fun w s => lay_calls _ _ _  s ((((hr.cons _).cons _).cons _).cons _) (by assumption))) rfl ?_; rintro _ l ⟨rfl, rfl⟩; refine ⟨[_, _, _], rfl, ?_⟩
          refine et_1 (i := 2) (by kernel_rfl) ?_
          refine ei_i rfl rfl (wn_none rfl) (os_call cb_74 rfl (fun w s => keys_calls  s )) rfl ?_; rintro _ l ⟨rfl, rfl⟩; refine ⟨[_, _, _], rfl, ?_⟩
          refine et_1 (i := 10) (by kernel_rfl) ?_
          refine ei_iN rfl rfl (wn_none rfl) (os_storew (wC _) ag_100 rfl rfl (by rw [wC_len]; exact layM_len bs) (wC_one _) (by simp [wC_len, w8C_len]) (Free.zero _)) ?_; rintro _ _ ⟨rfl, rfl⟩; refine ⟨[_, _, _], rfl, ?_⟩
          refine et_1 (i := 11) (by kernel_rfl) ?_
          refine ei_iN rfl rfl (wn_none rfl) (os_pull1 (os_storew (wC _) ag_100 rfl rfl (by rw [wC_len]; rfl) (wC_one _) (by simp [wC_len, w8C_len]) (Free.zero _))) ?_; rintro _ _ ⟨rfl, rfl⟩; refine ⟨[_, _, _], rfl, ?_⟩
          refine et_1 (i := 12) (by kernel_rfl) ?_
          refine ei_iN rfl rfl (wn_none rfl) (os_pull2 (os_storew (wC _) ag_91 rfl rfl (by rw [wC_len]; exact q.w.2) (wC_one _) (by simp [wC_len, w8C_len]) (Free.zero _))) ?_; rintro _ _ ⟨rfl, rfl⟩; refine ⟨[_, _, _], rfl, ?_⟩
          refine et_nil (by kernel_rfl) ?_
          refine px_cut (bx105, bx102, bx87) ⟨rfl, rfl, rfl, trivial⟩ ?_ (fun _ s => ((((s.pull 3).pull 1).pull 2).pull 3))
          repeat (first | exact kept_self | exact kept_over | refine kept_upd rfl ?_ | refine kept_overS (by decide) ?_)
  · rintro ⟨b4, b5, b6⟩ f0; (try dsimp only)
    refine cd_seq ?_
    refine cd_sr ?_   -- 1
    refine ol_q (wn_none rfl) (op_move (v := .int _ _) rfl) rfl ?_
    refine ol_nil_then ?_
    refine cd_block ?_
    refine cd_loop2 (α := Nat) [(7, 11), (20, 93)] (fun x => [(20, .int .i64 (x : Int))]) (fun x => Blk b6 (.cells (wC (rnds (layM bs) q.w.1 x)).toArray 91 (0, 0)) :: Blk b4 (.cells (wC (layM bs)).toArray 100 (0, 0)) :: Blk b5 (.cells (wC K64).toArray 100 (0, 0)) :: Blk p (.cells (stC q).toArray 94 (0, 0)) :: l) (fun x => x ≤ 64) (fun x => 64 - x) 0 (Nat.zero_le _) ⟨rfl, trivial⟩ (fun _ s => ((((s.pull 3).pull 2).pull 2).pull 3)) ?_
    rintro i hi f; (try dsimp only at hi ⊢)
    refine cd_sr ?_   -- 2
    refine ol_q (wn_none rfl) (op_lt rfl rfl) rfl ?_
    refine ol_nil_then ?_
    refine cd_seq ?_
    refine cd_cond rfl (fun hb1 => ?_) (fun hb1 => ?_)
    · have hp1 := hb1
      (try simp only [decide_eq_true_eq, decide_eq_false_iff_not, Bool.not_eq_true', Bool.not_eq_false', ne_eq, Decidable.not_not] at hp1)
      have hi64 : i < 64 := by omega
      obtain ⟨va, vb, vc, vd, ve, vf, vg, vh, hv⟩ := list_len8 (rnds_len (W := layM bs) q.w.2 i)
      rw [hv]
      refine cd_skip ?_
      refine px_then ?_
      refine cd_seq ?_
      refine cd_block ?_
      refine cd_sr ?_   -- 3
      refine ol_q (wn_none rfl) (op_move (v := .int _ _) rfl) rfl ?_
      refine ol_q (wn_none rfl) (op_assign (v := .int _ _) rfl) rfl ?_
      refine ol_nil_then ?_
      refine cd_seq ?_   -- 4
      refine cd_draw (M := []) mx [] (by kernel_rfl) ?_
      refine rg_q (wn_none rfl) (op_aidx0 0 a1_91 rfl rfl rfl (by omega)) rfl rfl ?_
      refine rg_q (wn_none rfl) (op_ld 0 sc_90 rfl rfl (wC_at0 (by first | omega | (simp; done) | (simp; omega)))) rfl rfl ?_
      refine rg_q (wn_none rfl) (op_aidx0 4 a1_91 rfl rfl rfl (by omega)) rfl rfl ?_
      refine rg_q (wn_none rfl) (op_ld 0 sc_90 rfl rfl (wC_at0 (by first | omega | (simp; done) | (simp; omega)))) rfl rfl ?_
      refine rg_q (wn_none rfl) (op_assign (v := .int _ _) rfl) rfl rfl ?_
      refine rg_q (wn_none rfl) (op_assign (v := .int _ _) rfl) rfl rfl ?_
      refine rg_nil_then0 ?_
      refine cd_seq ?_   -- 5
      refine cd_drawe (M := []) mx [3, 5, 8] ?_
      -- 0
      refine et_quiet 0 (by kernel_rfl) rfl (by kernel_rfl) (wn_none rfl) (op_aidx0 7 a1_91 rfl rfl rfl (by omega)) rfl ?_
      -- 1
      refine et_quiet 1 (by kernel_rfl) rfl (by kernel_rfl) (wn_none rfl) (op_ld 0 sc_90 rfl rfl (wC_at0 (by first | omega | (simp; done) | (simp; omega)))) rfl ?_
      -- 2
      refine et_quiet 2 (by kernel_rfl) rfl (by kernel_rfl) (wn_none rfl) (op_move (v := .int _ _) rfl) rfl ?_
      -- 4
      refine et_quiet 4 (by kernel_rfl) rfl (by kernel_rfl) (wn_none rfl) (op_move (v := .int _ _) rfl) rfl ?_
      -- 7
      refine et_quiet 7 (by kernel_rfl) rfl (by kernel_rfl) (wn_none rfl) (op_move (v := .int _ _) rfl) rfl ?_
      -- 11
      refine et_quiet 11 (by kernel_rfl) rfl (by kernel_rfl) (wn_none rfl) (op_move (v := .int _ _) rfl) rfl ?_
      -- 12
      refine et_quiet 12 (by kernel_rfl) rfl (by kernel_rfl) (wn_none rfl) (op_aidx0 5 a1_91 rfl rfl rfl (by omega)) rfl ?_
      -- 13
      refine et_quiet 13 (by kernel_rfl) rfl (by kernel_rfl) (wn_none rfl) (op_ld 0 sc_90 rfl rfl (wC_at0 (by first | omega | (simp; done) | (simp; omega)))) rfl ?_
      -- 14
      refine et_quiet 14 (by kernel_rfl) rfl (by kernel_rfl) (wn_none rfl) (op_and32 _ _ rfl rfl) rfl ?_
      -- 15
      refine et_quiet 15 (by kernel_rfl) rfl (by kernel_rfl) (wn_none rfl) (op_move (v := .int _ _) rfl) rfl ?_
      -- 16
      refine et_quiet 16 (by kernel_rfl) rfl (by kernel_rfl) (wn_none rfl) (op_not32 _ rfl) rfl ?_
      -- 17
      refine et_quiet 17 (by kernel_rfl) rfl (by kernel_rfl) (wn_none rfl) (op_aidx0 6 a1_91 rfl rfl rfl (by omega)) rfl ?_
      -- 18
      refine et_quiet 18 (by kernel_rfl) rfl (by kernel_rfl) (wn_none rfl) (op_ld 0 sc_90 rfl rfl (wC_at0 (by first | omega | (simp; done) | (simp; omega)))) rfl ?_
      -- 19
      refine et_quiet 19 (by kernel_rfl) rfl (by kernel_rfl) (wn_none rfl) (op_and32 _ _ rfl rfl) rfl ?_
      -- 20
      refine et_quiet 20 (by kernel_rfl) rfl (by kernel_rfl) (wn_none rfl) (op_xor32 _ _ rfl rfl) rfl ?_
      -- 22
      refine et_quiet 22 (by kernel_rfl) rfl (by kernel_rfl) (wn_none rfl) (op_move (v := .int _ _) rfl) rfl ?_
      -- 23
      refine et_quiet 23 (by kernel_rfl) rfl (by kernel_rfl) (wn_none rfl) (op_aidx0 _ a1_100 rfl rfl rfl (by omega)) rfl ?_
      -- 24
      refine et_quiet 24 (by kernel_rfl) rfl (by kernel_rfl) (wn_none rfl) (op_ld 2 sc_90 rfl rfl (wC_gd (by rw [K64_len]; omega))) rfl ?_
      -- 26
      refine et_quiet 26 (by kernel_rfl) rfl (by kernel_rfl) (wn_none rfl) (op_move (v := .int _ _) rfl) rfl ?_
      -- 27
      refine et_quiet 27 (by kernel_rfl) rfl (by kernel_rfl) (wn_none rfl) (op_aidx0 _ a1_100 rfl rfl rfl (by omega)) rfl ?_
      -- 28
      refine et_quiet 28 (by kernel_rfl) rfl (by kernel_rfl) (wn_none rfl) (op_ld 1 sc_90 rfl rfl (wC_gd (by rw [layM_len]; omega))) rfl ?_
      refine et_1 (i := 3) (by kernel_rfl) ?_
      refine ei_i rfl rfl (wn_none rfl) (os_call cb_75 rfl (fun w s => turn_calls (k := 6) _  s (by decide) (by decide))) rfl ?_; rintro _ l ⟨rfl, rfl⟩; refine ⟨[], rfl, ?_⟩
      refine et_1 (i := 5) (by kernel_rfl) ?_
      refine ei_i rfl rfl (wn_none rfl) (os_call cb_75 rfl (fun w s => turn_calls (k := 11) _  s (by decide) (by decide))) rfl ?_; rintro _ l ⟨rfl, rfl⟩; refine ⟨[], rfl, ?_⟩
      -- 6
      refine et_quiet 6 (by kernel_rfl) rfl (by kernel_rfl) (wn_none rfl) (op_xor32 _ _ rfl rfl) rfl ?_
      refine et_1 (i := 8) (by kernel_rfl) ?_
      refine ei_i rfl rfl (wn_none rfl) (os_call cb_75 rfl (fun w s => turn_calls (k := 25) _  s (by decide) (by decide))) rfl ?_; rintro _ l ⟨rfl, rfl⟩; refine ⟨[], rfl, ?_⟩
      -- 9
      refine et_quiet 9 (by kernel_rfl) rfl (by kernel_rfl) (wn_none rfl) (op_xor32 _ _ rfl rfl) rfl ?_
      -- 10
      refine et_quiet 10 (by kernel_rfl) rfl (by kernel_rfl) (wn_none rfl) (op_add32 _ _ rfl rfl) rfl ?_
      -- 21
      refine et_quiet 21 (by kernel_rfl) rfl (by kernel_rfl) (wn_none rfl) (op_add32 _ _ rfl rfl) rfl ?_
      -- 25
      refine et_quiet 25 (by kernel_rfl) rfl (by kernel_rfl) (wn_none rfl) (op_add32 _ _ rfl rfl) rfl ?_
      -- 29
      refine et_quiet 29 (by kernel_rfl) rfl (by kernel_rfl) (wn_none rfl) (op_add32 _ _ rfl rfl) rfl ?_
      -- 30
      refine et_quiet 30 (by kernel_rfl) rfl (by kernel_rfl) (wn_none rfl) (op_assign (v := .int _ _) rfl) rfl ?_
      refine et_nil_then (by kernel_rfl) ?_
      refine cd_seq ?_   -- 6
      refine cd_drawe (M := []) mx [1, 3, 6] ?_
      -- 0
      refine et_quiet 0 (by kernel_rfl) rfl (by kernel_rfl) (wn_none rfl) (op_move (v := .int _ _) rfl) rfl ?_
      -- 2
      refine et_quiet 2 (by kernel_rfl) rfl (by kernel_rfl) (wn_none rfl) (op_move (v := .int _ _) rfl) rfl ?_
      -- 5
      refine et_quiet 5 (by kernel_rfl) rfl (by kernel_rfl) (wn_none rfl) (op_move (v := .int _ _) rfl) rfl ?_
      -- 8
      refine et_quiet 8 (by kernel_rfl) rfl (by kernel_rfl) (wn_none rfl) (op_move (v := .int _ _) rfl) rfl ?_
      -- 9
      refine et_quiet 9 (by kernel_rfl) rfl (by kernel_rfl) (wn_none rfl) (op_aidx0 1 a1_91 rfl rfl rfl (by omega)) rfl ?_
      -- 10
      refine et_quiet 10 (by kernel_rfl) rfl (by kernel_rfl) (wn_none rfl) (op_ld 0 sc_90 rfl rfl (wC_at0 (by first | omega | (simp; done) | (simp; omega)))) rfl ?_
      -- 11
      refine et_quiet 11 (by kernel_rfl) rfl (by kernel_rfl) (wn_none rfl) (op_and32 _ _ rfl rfl) rfl ?_
      -- 12
      refine et_quiet 12 (by kernel_rfl) rfl (by kernel_rfl) (wn_none rfl) (op_move (v := .int _ _) rfl) rfl ?_
      -- 13
      refine et_quiet 13 (by kernel_rfl) rfl (by kernel_rfl) (wn_none rfl) (op_aidx0 2 a1_91 rfl rfl rfl (by omega)) rfl ?_
      -- 14
      refine et_quiet 14 (by kernel_rfl) rfl (by kernel_rfl) (wn_none rfl) (op_ld 0 sc_90 rfl rfl (wC_at0 (by first | omega | (simp; done) | (simp; omega)))) rfl ?_
      -- 15
      refine et_quiet 15 (by kernel_rfl) rfl (by kernel_rfl) (wn_none rfl) (op_and32 _ _ rfl rfl) rfl ?_
      -- 16
      refine et_quiet 16 (by kernel_rfl) rfl (by kernel_rfl) (wn_none rfl) (op_xor32 _ _ rfl rfl) rfl ?_
      -- 17
      refine et_quiet 17 (by kernel_rfl) rfl (by kernel_rfl) (wn_none rfl) (op_aidx0 1 a1_91 rfl rfl rfl (by omega)) rfl ?_
      -- 18
      refine et_quiet 18 (by kernel_rfl) rfl (by kernel_rfl) (wn_none rfl) (op_ld 0 sc_90 rfl rfl (wC_at0 (by first | omega | (simp; done) | (simp; omega)))) rfl ?_
      -- 19
      refine et_quiet 19 (by kernel_rfl) rfl (by kernel_rfl) (wn_none rfl) (op_aidx0 2 a1_91 rfl rfl rfl (by omega)) rfl ?_
      -- 20
      refine et_quiet 20 (by kernel_rfl) rfl (by kernel_rfl) (wn_none rfl) (op_ld 0 sc_90 rfl rfl (wC_at0 (by first | omega | (simp; done) | (simp; omega)))) rfl ?_
      -- 21
      refine et_quiet 21 (by kernel_rfl) rfl (by kernel_rfl) (wn_none rfl) (op_and32 _ _ rfl rfl) rfl ?_
      -- 22
      refine et_quiet 22 (by kernel_rfl) rfl (by kernel_rfl) (wn_none rfl) (op_xor32 _ _ rfl rfl) rfl ?_
      refine et_1 (i := 1) (by kernel_rfl) ?_
      refine ei_i rfl rfl (wn_none rfl) (os_call cb_75 rfl (fun w s => turn_calls (k := 2) _  s (by decide) (by decide))) rfl ?_; rintro _ l ⟨rfl, rfl⟩; refine ⟨[], rfl, ?_⟩
      refine et_1 (i := 3) (by kernel_rfl) ?_
      refine ei_i rfl rfl (wn_none rfl) (os_call cb_75 rfl (fun w s => turn_calls (k := 13) _  s (by decide) (by decide))) rfl ?_; rintro _ l ⟨rfl, rfl⟩; refine ⟨[], rfl, ?_⟩
      -- 4
      refine et_quiet 4 (by kernel_rfl) rfl (by kernel_rfl) (wn_none rfl) (op_xor32 _ _ rfl rfl) rfl ?_
      refine et_1 (i := 6) (by kernel_rfl) ?_
      refine ei_i rfl rfl (wn_none rfl) (os_call cb_75 rfl (fun w s => turn_calls (k := 22) _  s (by decide) (by decide))) rfl ?_; rintro _ l ⟨rfl, rfl⟩; refine ⟨[], rfl, ?_⟩
      -- 7
      refine et_quiet 7 (by kernel_rfl) rfl (by kernel_rfl) (wn_none rfl) (op_xor32 _ _ rfl rfl) rfl ?_
      -- 23
      refine et_quiet 23 (by kernel_rfl) rfl (by kernel_rfl) (wn_none rfl) (op_add32 _ _ rfl rfl) rfl ?_
      -- 24
      refine et_quiet 24 (by kernel_rfl) rfl (by kernel_rfl) (wn_none rfl) (op_assign (v := .int _ _) rfl) rfl ?_
      refine et_nil_then (by kernel_rfl) ?_
      refine cd_seq ?_   -- 7
      refine cd_drawt (M := []) mx [] 2 (by kernel_rfl) rfl rfl ?_
      dsimp only [List.take_succ_cons, List.take_zero, List.drop_succ_cons, List.drop_zero]
      refine rg_q (wn_none rfl) (op_slicea_from 1 a1_91 rfl rfl rfl (by decide)) rfl rfl ?_
      refine rg_q (wn_none rfl) (op_slicea_to 7 a1_91 rfl rfl rfl (by decide) (by decide)) rfl rfl ?_
      refine rg_tail0 ?_
      refine ol_i (wn_none rfl) (os_copyw (wC [va, va, vb, vc, vd, ve, vf, vg]) 107 rfl s1_107 rfl rfl (by simp [wC_len]) (by simp [wC_len]) (wC_one _) (Free.zero _) rfl) rfl ?_; rintro _ _ ⟨rfl, rfl⟩
      refine ol_nil_then ?_
      refine cd_sr ?_   -- 8
      refine ol_q (wn_none rfl) (op_aidx0 4 a1_91 rfl rfl rfl (by omega)) rfl ?_
      refine ol_q (wn_none rfl) (op_ld 0 sc_90 rfl rfl (wC_at0 (by first | omega | (simp; done) | (simp; omega)))) rfl ?_
      refine ol_q (wn_none rfl) (op_move (v := .int _ _) rfl) rfl ?_
      refine ol_q (wn_none rfl) (op_add32 _ _ rfl rfl) rfl ?_
      refine ol_q (wn_none rfl) (op_aidx0 4 a1_91 rfl rfl rfl (by omega)) rfl ?_
      refine ol_iN (wn_none rfl) (os_store (v := .int _ _) sc_90 rfl rfl rfl (Nat.ble_eq_true_of_le (by simp [wC_len] <;> omega)) (Free.zero _) (wC_set0 _)) ?_; rintro _ _ ⟨rfl, rfl⟩
      refine ol_nil_then ?_
      refine cd_region ?_   -- 9
      refine ol_q (wn_none rfl) (op_move (v := .int _ _) rfl) rfl ?_
      refine ol_q (wn_none rfl) (op_move (v := .int _ _) rfl) rfl ?_
      refine ol_q (wn_none rfl) (op_add32 _ _ rfl rfl) rfl ?_
      refine ol_q (wn_none rfl) (op_aidx0 0 a1_91 rfl rfl rfl (by omega)) rfl ?_
      refine ol_iN (wn_none rfl) (os_store (v := .int _ _) sc_90 rfl rfl rfl (Nat.ble_eq_true_of_le (by simp [wC_len] <;> omega)) (Free.zero _) (wC_set0 _)) ?_; rintro _ _ ⟨rfl, rfl⟩
      refine ol_nil ?_
      refine px_blockN ?_
      refine px_then ?_
      refine cd_region ?_   -- 10
      refine ol_q (wn_none rfl) (op_add rfl rfl (by omega) (by omega)) rfl ?_
      refine ol_q (wn_none rfl) (op_move (v := .int _ _) rfl) rfl ?_
      refine ol_nil ?_
      refine px_loop2 (i + 1) (by omega) (by (try dsimp only); omega) ⟨congrArg (Value.int .i64) (by simp), trivial⟩ ?_ (fun _ s => (by (try dsimp only); rw [rnds, hv]; exact s))
      repeat (first | exact kept_over | refine kept_upd rfl ?_ | refine kept_overS (by decide) ?_)
    · have hp1 := hb1
      (try simp only [decide_eq_true_eq, decide_eq_false_iff_not, Bool.not_eq_true', Bool.not_eq_false', ne_eq, Decidable.not_not] at hp1)
      obtain rfl : i = 64 := by omega
      refine cd_exit ?_
      refine px_thenE ?_
      refine px_thenE ?_
      refine px_blockE ?_
      refine px_then ?_
      refine cd_sr ?_   -- 11
      refine ol_q (wn_none rfl) (op_move (v := .int _ _) rfl) rfl ?_
      refine ol_nil_then ?_
      refine cd_block ?_
      refine cd_loop2 (α := Nat) [(12, 12), (94, 110)] (fun x => [(94, .int .i64 (x : Int))]) (fun x => Blk p (.cells (stC ⟨q.w.add (rnds (layM bs) q.w.1 64) x, q.rest, q.size⟩).toArray 94 (0, 0)) :: Blk b6 (.cells (wC (rnds (layM bs) q.w.1 64)).toArray 91 (0, 0)) :: l) (fun x => x ≤ 8) (fun x => 8 - x) 0 (Nat.zero_le _) ⟨rfl, trivial⟩ (fun _ s => by rw [W8.add_zero]; exact (((s.del 2).del 1).pull 1)) ?_
      rintro j hj f; (try dsimp only at hj ⊢)
      refine cd_sr ?_   -- 12
      refine ol_q (wn_none rfl) (op_lt rfl rfl) rfl ?_
      refine ol_nil_then ?_
      refine cd_seq ?_
      refine cd_cond rfl (fun hb2 => ?_) (fun hb2 => ?_)
      · have hp2 := hb2
        (try simp only [decide_eq_true_eq, decide_eq_false_iff_not, Bool.not_eq_true', Bool.not_eq_false', ne_eq, Decidable.not_not] at hp2)
        have hj8 : j < 8 := by omega
        refine cd_skip ?_
        refine px_then ?_
        refine cd_seq ?_
        refine cd_block ?_
        refine cd_sr ?_   -- 13
        refine ol_q (wn_none rfl) (op_move (v := .int _ _) rfl) rfl ?_
        refine ol_q (wn_none rfl) (op_assign (v := .int _ _) rfl) rfl ?_
        refine ol_nil_then ?_
        -- 14
        refine cd_drawt (M := []) mx [] 13 (by kernel_rfl) rfl rfl ?_
        dsimp only [List.take_succ_cons, List.take_zero, List.drop_succ_cons, List.drop_zero]
        refine rg_q (wn_none rfl) (op_move (v := .pointer _) rfl) rfl rfl ?_
        refine rg_q (wn_none rfl) (op_move (v := .int _ _) rfl) rfl rfl ?_
        refine rg_q (wn_none rfl) (op_nilck rfl) rfl rfl ?_
        refine rg_q (wn_none rfl) (op_field fld_94_0 rfl) rfl rfl ?_
        refine rg_q (wn_none rfl) (op_aidx0 _ a1_91 rfl rfl rfl (by omega)) rfl rfl ?_
        refine rg_q (wn_none rfl) (op_ld 0 sc_90 rfl rfl (stC_wld _ _ _ _ hj8)) rfl rfl ?_
        refine rg_q (wn_none rfl) (op_move (v := .int _ _) rfl) rfl rfl ?_
        refine rg_q (wn_none rfl) (op_aidx0 _ a1_91 rfl rfl rfl (by omega)) rfl rfl ?_
        refine rg_q (wn_none rfl) (op_ld 1 sc_90 rfl rfl (wC_gd (by rw [rnds_len q.w.2]; omega))) rfl rfl ?_
        refine rg_q (wn_none rfl) (op_add32 _ _ rfl rfl) rfl rfl ?_
        refine rg_q (wn_none rfl) (op_nilck rfl) rfl rfl ?_
        refine rg_q (wn_none rfl) (op_field fld_94_0 rfl) rfl rfl ?_
        refine rg_q (wn_none rfl) (op_aidx0 _ a1_91 rfl rfl rfl (by omega)) rfl rfl ?_
        refine rg_tail0 ?_
        refine ol_iN (wn_none rfl) (os_store (v := .int _ _) sc_90 rfl rfl rfl (Nat.ble_eq_true_of_le (show j + 1 ≤ _ by rw [List.size_toArray, stC_len]; omega)) (Free.zero _) (stC_wst _ _ _ _ hj8 rfl)) ?_; rintro _ _ ⟨rfl, rfl⟩
        refine ol_nil ?_
        refine px_blockN ?_
        refine px_then ?_
        refine cd_region ?_   -- 15
        refine ol_q (wn_none rfl) (op_add rfl rfl (by omega) (by omega)) rfl ?_
        refine ol_q (wn_none rfl) (op_move (v := .int _ _) rfl) rfl ?_
        refine ol_nil ?_
        refine px_loop2 (j + 1) (by omega) (by (try dsimp only); omega) ⟨congrArg (Value.int .i64) (by simp), trivial⟩ ?_ (fun _ s => s)
        repeat (first | exact kept_over | refine kept_upd rfl ?_ | refine kept_overS (by decide) ?_)
      · have hp2 := hb2
        (try simp only [decide_eq_true_eq, decide_eq_false_iff_not, Bool.not_eq_true', Bool.not_eq_false', ne_eq, Decidable.not_not] at hp2)
        obtain rfl : j = 8 := by omega
        refine cd_exit ?_
        refine px_thenE ?_
        refine px_thenE ?_
        refine px_blockE ?_
        exact px_end0 rfl (fun _ s => (s.del 1)) ⟨rfl, rfl⟩
end Go.SL

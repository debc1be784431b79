import Derived.Test.YtdeemlgkckpedaaPrnA
set_option linter.unusedVariables false
set_option linter.unusedSimpArgs false
namespace Go.SL
open Go.Proofs

set_option maxRecDepth 100000 in
set_option maxHeartbeats 1000000 in
theorem PruneFirst_calls {w0 w : World} {l : List HProp} (lo : Option Addr) (lc : Nat) (xs : List PBlk) (hs : Sat w0 w (l)) (hr : Rds w0 l encPBlk lo xs) (hq : ∀ a ∈ xs, I64 a.root ∧ I64 a.parent ∧ I64 a.slot ∧ I64 a.n) :
  Calls Try.prog 4 #[.slice lo xs.length lc] w (Ret w0 fun v l' => v = .bool true ∧ l' = l) := by
 refine calls_enter Try.func4 rfl rfl rfl hs ?_
 refine cd_sr ?_
 refine oq (op_assign (v := .bool _) rfl) ?_
 refine ol_nil_then ?_
 refine cd_seq ?_
 refine cd_sr ?_
 refine oi (os_call cb_13 rfl (fun w s => pAlive_calls  s )) ?_; rintro _ l ⟨rfl, rfl⟩
 refine oq (op_not rfl) ?_
 refine ol_nil_then ?_
 refine cd_cond_f rfl rfl ?_
 refine cd_skip ?_
 refine px_then ?_
 refine cd_sr ?_
 refine oq (op_move (v := .slice _ _ _) rfl) ?_
 refine oi (os_call cb_14 rfl (fun w s => pMade_calls _ _ _ s hr)) ?_; rintro _ l2 (⟨hbad1, rfl, hl2⟩ | ⟨hxl1, pt1, pw1, pr1, pm1, rfl, rfl⟩)
 ·rw [hl2]
  refine oq (op_move (v := .tuple _) rfl) ?_
  refine oq (op_extract (v := .pointer _) rfl rfl) ?_
  refine oq (op_extract (v := .pointer _) rfl rfl) ?_
  refine oq (op_extract (v := .pointer _) rfl rfl) ?_
  refine oq (op_extract (v := .bool _) rfl rfl) ?_
  refine oq (op_assign (v := .pointer _) rfl) ?_
  refine oq (op_assign (v := .pointer _) rfl) ?_
  refine oq (op_assign (v := .pointer _) rfl) ?_
  refine oq (op_assign (v := .bool _) rfl) ?_
  refine ol_nil_then ?_
  refine cd_seq ?_
  refine cd_sr ?_
  refine oq (op_move (v := .bool _) rfl) ?_
  refine oq (op_not rfl) ?_
  refine ol_nil_then ?_
  refine cd_cond_t rfl rfl ?_
  refine cd_sr ?_
  refine oq (op_assign (v := .bool _) rfl) ?_
  refine ol_nil_then ?_
  refine cd_ret ?_
  refine px_thenR ?_
  exact px_ret1 rfl (v := .bool _) rfl (fun _ s => s) ⟨congrArg Value.bool (by first | rfl | simp), rfl⟩
 ·skip
  refine oq (op_move (v := .tuple _) rfl) ?_
  refine oq (op_extract (v := .pointer _) rfl rfl) ?_
  refine oq (op_extract (v := .pointer _) rfl rfl) ?_
  refine oq (op_extract (v := .pointer _) rfl rfl) ?_
  refine oq (op_extract (v := .bool _) rfl rfl) ?_
  refine oq (op_assign (v := .pointer _) rfl) ?_
  refine oq (op_assign (v := .pointer _) rfl) ?_
  refine oq (op_assign (v := .pointer _) rfl) ?_
  refine oq (op_assign (v := .bool _) rfl) ?_
  refine ol_nil_then ?_
  refine cd_seq ?_
  refine cd_sr ?_
  refine oq (op_move (v := .bool _) rfl) ?_
  refine oq (op_not rfl) ?_
  refine ol_nil_then ?_
  refine cd_cond_f rfl rfl ?_
  refine cd_skip ?_
  refine px_then ?_
  have hO := OKM.run xs
  have hw := hO.1.wf
  have hN1 := hw.le
  have hN2 := hw.m2
  have hN0 := hw.ne
  have hol := ownM_len xs
  have hok := ownM_ok xs
  have hrl := roots_len (runM xs).1
  have hi0 := hO.1.idx0
  refine cd_sr ?_
  refine oq (op_move (v := .pointer _) rfl) ?_
  refine oq (op_move (v := .pointer _) rfl) ?_
  refine oi (os_call cb_17 rfl (fun w s => Name_calls (n := 0)  s )) ?_; rintro _ l ⟨rfl, rfl⟩
  refine ol_pull1 ?_
  refine ol_pull1 ?_
  refine oi (os_call cb_16 rfl (fun w s => PAllS_calls _ _ _ _ _ _  s hi0 (Nat.le_of_eq hol) hok)) ?_; rintro _ _ ⟨pq3, qw3, rfl, rfl⟩; rw [prT_all hw, prO_all hw hol]
  refine oq (op_move (v := .tuple _) rfl) ?_
  refine oq (op_extract (v := .pointer _) rfl rfl) ?_
  refine oq (op_extract (v := .pointer _) rfl rfl) ?_
  refine oq (op_extract (v := .int _ _) rfl rfl) ?_
  refine oq (op_assign (v := .pointer _) rfl) ?_
  refine oq (op_assign (v := .pointer _) rfl) ?_
  refine oq (op_assign (v := .int _ _) rfl) ?_
  refine ol_nil_then ?_
  refine cd_seq ?_
  refine cd_sr ?_
  refine oq (op_move (v := .int _ _) rfl) ?_
  refine oq (op_ne rfl rfl) ?_
  refine oq (op_move (v := .bool _) rfl) ?_
  refine ol_split 33 rfl (fun hb1 => ?_) (fun hb1 => ?_)
  ·have hp1 := hb1
   (try simp only [bn] at hp1)
   exact absurd hb1 (by decide)
  ·have hp1 := hb1
   (try simp only [bn] at hp1)
   refine ol_q (wn_some rfl rfl rfl hb1 rfl) (op_move (v := .pointer _) rfl) rfl ?_
   refine ol_q (wn_some rfl rfl rfl hb1 rfl) (op_move (v := .pointer _) rfl) rfl ?_
   refine ol_q (wn_some rfl rfl rfl hb1 rfl) (op_eqpp Try.underlying26 isz_114 rfl rfl (fun _ s => ((s.pull 2).pull 1).trees_apart)) rfl ?_
   refine oq (op_pick_f (v := .bool _) rfl hb1 rfl) ?_
   refine oq (op_move (v := .bool _) rfl) ?_
   refine ol_q (wn_some rfl rfl rfl rfl rfl) (op_move (v := .pointer _) rfl) rfl ?_
   refine ol_i (wn_some rfl rfl rfl rfl rfl) (os_call cb_20 rfl (fun w s => Roots_calls _ _  s )) rfl ?_; rintro _ _ ⟨ao4, ac4, rfl, rfl⟩
   refine ol_q (wn_some rfl rfl rfl rfl rfl) (op_move (v := .pointer _) rfl) rfl ?_
   refine ol_pull3 ?_
   refine ol_i (wn_some rfl rfl rfl rfl rfl) (os_call cb_20 rfl (fun w s => Roots_calls _ _  s )) rfl ?_; rintro _ _ ⟨ao5, ac5, rfl, rfl⟩
   refine ol_i (wn_some rfl rfl rfl rfl rfl) (os_call cb_19 rfl (fun w s => Same_calls _ _ _ _ _ _  s (rds_row 2 rfl rfl) (rds_row 0 rfl rfl) (by rw [roots_len]; omega))) rfl ?_; rintro _ l ⟨rfl, rfl⟩
   refine ol_q (wn_some rfl rfl rfl rfl rfl) (op_not rfl) rfl ?_
   refine oq (op_pick_f (v := .bool _) rfl rfl rfl) ?_
   refine oq (op_move (v := .bool _) rfl) ?_
   refine ol_split 46 rfl (fun hb2 => ?_) (fun hb2 => ?_)
   ·have hp2 := hb2
    (try simp only [bn] at hp2)
    exact absurd hb2 (by simp)
   ·have hp2 := hb2
    (try simp only [bn] at hp2)
    refine ol_q (wn_some rfl rfl rfl hb2 rfl) (op_move (v := .pointer _) rfl) rfl ?_
    refine ol_pull3 ?_
    refine ol_i (wn_some rfl rfl rfl hb2 rfl) (os_call cb_21 rfl (fun w s => Room_calls _ _  s )) rfl ?_; rintro _ _ ⟨rfl, rfl⟩
    refine ol_q (wn_some rfl rfl rfl hb2 rfl) (op_move (v := .pointer _) rfl) rfl ?_
    refine ol_pull2 ?_
    refine ol_i (wn_some rfl rfl rfl hb2 rfl) (os_call cb_21 rfl (fun w s => Room_calls _ _  s )) rfl ?_; rintro _ _ ⟨rfl, rfl⟩
    refine ol_q (wn_some rfl rfl rfl hb2 rfl) (op_ne rfl rfl) rfl ?_
    refine oq (op_pick_f (v := .bool _) rfl hb2 rfl) ?_
    refine ol_nil_then ?_
    refine cd_cond rfl (fun hb3 => ?_) (fun hb3 => ?_)
    ·have hp3 := hb3
     (try simp only [bn] at hp3)
     exact absurd hb3 (by simp)
    ·have hp3 := hb3
     (try simp only [bn] at hp3)
     refine cd_skip ?_
     refine px_then ?_
     refine cd_seq ?_
     refine cd_sr ?_
     refine oq (op_move (v := .pointer _) rfl) ?_
     refine oi (os_call cb_20 rfl (fun w s => Roots_calls _ _  s )) ?_; rintro _ _ ⟨ao9, ac9, rfl, rfl⟩
     refine oq (op_len_slice Try.underlying37 rfl) ?_
     refine oq (op_move (v := .int _ _) rfl) ?_
     refine ol_nil_then ?_
     refine cd_block ?_
     refine cd_loop2 (α := Nat) [(2, 2), (11, 11), (56, 76)] (fun x => [(56, .int .i64 (x : Int))]) (fun _ => _) (fun x => x ≤ (runM xs).1.roots.length) (fun x => (runM xs).1.roots.length - x) 0 (Nat.zero_le _) ⟨rfl, trivial⟩ (fun _ s => s) ?_
     rintro i hi f; (try dsimp only at hi ⊢)
     refine cd_sr ?_
     refine oq (op_lt rfl rfl) ?_
     refine ol_nil_then ?_
     refine cd_seq ?_
     refine cd_cond rfl (fun hb4 => ?_) (fun hb4 => ?_)
     ·have hp4 := hb4
      (try simp only [bn] at hp4)
      have hi1 : i < (runM xs).1.nodes.length := by omega
      refine cd_skip ?_
      refine px_then ?_
      refine cd_seq ?_
      refine cd_block ?_
      refine cd_sr ?_
      refine oq (op_index i sB_37 rfl rfl rfl (rds_row 0 rfl rfl) rfl (by omega)) ?_
      refine oq (op_ldaw (L := rootC _) ag_24 (rds_row 0 rfl rfl) rfl (by omega) rfl (rootC_ta _)) ?_
      refine oi (os_alloc (cs := (rootC Root.zero).toArray) zB_24 (by kernel_rfl)) ?_; rintro _ _ ⟨bx1, rfl, rfl⟩
      refine oN (os_storera _ ag_24 rfl rfl (Free.zero _)) ?_; rintro _ _ ⟨rfl, rfl⟩
      refine ol_nil_then ?_
      rw [roots_at (t := (runM xs).1) (i := i) (by omega)]
      refine cd_pull2 ?_
      refine cd_pull7 ?_
      refine cd_pull4 ?_
      refine cd_pull7 ?_
      refine cd_seq ?_
      refine cd_drawe (M := [_, _, _, _]) mx [2, 5, 10, 13] ?_
      refine e_q 0 rfl (wn_none rfl) (op_move (v := .pointer _) rfl) ?_
      refine e_q 1 rfl (wn_none rfl) (op_lda (L := rootC _) 0 ag_24 rfl rfl (rootC_take' _) (by simp [rootC_len])) ?_
      refine e_q 3 rfl (wn_none rfl) (op_move (v := .pointer _) rfl) ?_
      refine e_q 4 rfl (wn_none rfl) (op_lda (L := rootC _) 0 ag_24 rfl rfl (rootC_take' _) (by simp [rootC_len])) ?_
      refine et_1 (i := 2) (by kernel_rfl) ?_
      refine ei_i rfl rfl (wn_none rfl) (os_pull1 (os_call cb_28 rfl (fun w s => Weight_calls _ _ _ _ _  s ))) rfl ?_; rintro _ _ ⟨rfl, rfl⟩; refine ⟨[_, _, _, _], rfl, ?_⟩
      refine et_1 (i := 5) (by kernel_rfl) ?_
      refine ei_i rfl rfl (wn_none rfl) (os_pull2 (os_pull3 (os_call cb_28 rfl (fun w s => Weight_calls _ _ _ _ _  s )))) rfl ?_; rintro _ _ ⟨rfl, rfl⟩; refine ⟨[_, _, _, _], rfl, ?_⟩
      refine e_q 6 rfl (wn_none rfl) (op_ne rfl rfl) ?_
      refine e_q 7 rfl (wn_none rfl) (op_move (v := .bool _) rfl) ?_
      refine et_split 67 rfl (fun hb5 => ?_) (fun hb5 => ?_)
      ·have hp5 := hb5
       (try simp only [bn] at hp5)
       exact absurd hb5 (by simp)
      ·have hp5 := hb5
       (try simp only [bn] at hp5)
       refine e_q 8 rfl (wn_some rfl rfl rfl hb5 rfl) (op_move (v := .pointer _) rfl) ?_
       refine e_q 9 rfl (wn_some rfl rfl rfl hb5 rfl) (op_lda (L := rootC _) 0 ag_24 rfl rfl (rootC_take' _) (by simp [rootC_len])) ?_
       refine e_q 11 rfl (wn_some rfl rfl rfl hb5 rfl) (op_move (v := .pointer _) rfl) ?_
       refine e_q 12 rfl (wn_some rfl rfl rfl hb5 rfl) (op_lda (L := rootC _) 0 ag_24 rfl rfl (rootC_take' _) (by simp [rootC_len])) ?_
       refine et_1 (i := 10) (by kernel_rfl) ?_
       refine ei_i rfl rfl (wn_some rfl rfl rfl hb5 rfl) (os_pull3 (os_pull3 (os_call cb_26 rfl (fun w s => Own_calls _ _ _ _ _  s )))) rfl ?_; rintro _ _ ⟨rfl, rfl⟩; refine ⟨[_, _, _, _], rfl, ?_⟩
       refine et_1 (i := 13) (by kernel_rfl) ?_
       refine ei_i rfl rfl (wn_some rfl rfl rfl hb5 rfl) (os_pull3 (os_pull3 (os_call cb_26 rfl (fun w s => Own_calls _ _ _ _ _  s )))) rfl ?_; rintro _ _ ⟨rfl, rfl⟩; refine ⟨[_, _, _, _], rfl, ?_⟩
       refine e_q 14 rfl (wn_some rfl rfl rfl hb5 rfl) (op_ne rfl rfl) ?_
       refine e_q 15 rfl (wn_none rfl) (op_pick_f (v := .bool _) rfl hb5 rfl) ?_
       refine et_nil_then (by kernel_rfl) ?_
       refine cd_cond rfl (fun hb6 => ?_) (fun hb6 => ?_)
       ·have hp6 := hb6
        (try simp only [bn] at hp6)
        exact absurd hb6 (by simp)
       ·have hp6 := hb6
        (try simp only [bn] at hp6)
        refine cd_skip ?_
        refine px_blockN ?_
        refine px_then ?_
        refine cd_region ?_
        refine oq (op_add rfl rfl (by omega) (by omega)) ?_
        refine oq (op_move (v := .int _ _) rfl) ?_
        refine ol_nil ?_
        refine px_pull9 ?_
        refine px_pull9 ?_
        refine px_pull3 ?_
        refine px_pull5 ?_
        refine px_pull9 ?_
        refine px_pull9 ?_
        refine px_pull7 ?_
        refine px_pull7 ?_
        refine px_pull9 ?_
        refine px_loop2 (i + 1) (by omega) (by (try dsimp only); omega) ⟨congrArg (Value.int .i64) (by simp), trivial⟩ ?_ (fun _ s => (s.del 9))
        repeat (first | exact kept_over | refine kept_upd rfl ?_ | refine kept_overS (by decide) ?_)
     ·have hp4 := hb4
      (try simp only [bn] at hp4)
      refine cd_exit ?_
      refine px_thenE ?_
      refine px_thenE ?_
      refine px_blockE ?_
      refine px_then ?_
      refine cd_sr ?_
      refine oq (op_move (v := .pointer _) rfl) ?_
      refine ol_pull5 ?_
      refine ol_pull3 ?_
      refine oi (os_call cb_22 rfl (fun w s => Head_calls _ _ _ _  s (by omega) (by omega))) ?_; rintro _ _ ⟨rfl, rfl⟩
      refine oq (op_move (v := .pointer _) rfl) ?_
      refine ol_pull6 ?_
      refine ol_pull4 ?_
      refine oi (os_call cb_22 rfl (fun w s => Head_calls _ _ _ _  s (by omega) (by omega))) ?_; rintro _ _ ⟨rfl, rfl⟩
      refine oq (op_eqroot _ _ rB_24 rfl rfl) ?_
      refine oq (op_assign (v := .bool _) rfl) ?_
      refine ol_nil_then ?_
      refine cd_ret ?_
      exact px_ret1 rfl (v := .bool _) rfl (fun _ s => (((((((((s.del 8).del 7).del 6).del 5).del 4).del 3).del 2).del 1).del 0)) ⟨congrArg Value.bool (by first | rfl | simp), rfl⟩

set_option maxRecDepth 100000 in
set_option maxHeartbeats 1000000 in
theorem PruneTwice_calls {w0 w : World} {l : List HProp} (lo : Option Addr) (lc : Nat) (xs : List PBlk) (a b : Int) (hs : Sat w0 w (l)) (hr : Rds w0 l encPBlk lo xs) (hq : ∀ a ∈ xs, I64 a.root ∧ I64 a.parent ∧ I64 a.slot ∧ I64 a.n) :
  Calls Try.prog 6 #[.slice lo xs.length lc, .int .i64 a, .int .i64 b] w (Ret w0 fun v l' => v = .bool true ∧ l' = l) := by
 refine calls_enter Try.func6 rfl rfl rfl hs ?_
 refine cd_sr ?_
 refine oq (op_assign (v := .bool _) rfl) ?_
 refine ol_nil_then ?_
 refine cd_seq ?_
 refine cd_sr ?_
 refine oi (os_call cb_13 rfl (fun w s => pAlive_calls  s )) ?_; rintro _ l ⟨rfl, rfl⟩
 refine oq (op_not rfl) ?_
 refine ol_nil_then ?_
 refine cd_cond_f rfl rfl ?_
 refine cd_skip ?_
 refine px_then ?_
 refine cd_sr ?_
 refine oq (op_move (v := .slice _ _ _) rfl) ?_
 refine oi (os_call cb_14 rfl (fun w s => pMade_calls _ _ _ s hr)) ?_; rintro _ l2 (⟨hbad1, rfl, hl2⟩ | ⟨hxl1, pt1, pw1, pr1, pm1, rfl, rfl⟩)
 ·rw [hl2]
  refine oq (op_move (v := .tuple _) rfl) ?_
  refine oq (op_extract (v := .pointer _) rfl rfl) ?_
  refine oq (op_extract (v := .pointer _) rfl rfl) ?_
  refine oq (op_extract (v := .pointer _) rfl rfl) ?_
  refine oq (op_extract (v := .bool _) rfl rfl) ?_
  refine oq (op_assign (v := .pointer _) rfl) ?_
  refine oq (op_assign (v := .pointer _) rfl) ?_
  refine oq (op_assign (v := .pointer _) rfl) ?_
  refine oq (op_assign (v := .bool _) rfl) ?_
  refine ol_nil_then ?_
  refine cd_seq ?_
  refine cd_sr ?_
  refine oq (op_move (v := .bool _) rfl) ?_
  refine oq (op_not rfl) ?_
  refine ol_nil_then ?_
  refine cd_cond_t rfl rfl ?_
  refine cd_sr ?_
  refine oq (op_assign (v := .bool _) rfl) ?_
  refine ol_nil_then ?_
  refine cd_ret ?_
  refine px_thenR ?_
  exact px_ret1 rfl (v := .bool _) rfl (fun _ s => s) ⟨congrArg Value.bool (by first | rfl | simp), rfl⟩
 ·skip
  refine oq (op_move (v := .tuple _) rfl) ?_
  refine oq (op_extract (v := .pointer _) rfl rfl) ?_
  refine oq (op_extract (v := .pointer _) rfl rfl) ?_
  refine oq (op_extract (v := .pointer _) rfl rfl) ?_
  refine oq (op_extract (v := .bool _) rfl rfl) ?_
  refine oq (op_assign (v := .pointer _) rfl) ?_
  refine oq (op_assign (v := .pointer _) rfl) ?_
  refine oq (op_assign (v := .pointer _) rfl) ?_
  refine oq (op_assign (v := .bool _) rfl) ?_
  refine ol_nil_then ?_
  refine cd_seq ?_
  refine cd_sr ?_
  refine oq (op_move (v := .bool _) rfl) ?_
  refine oq (op_not rfl) ?_
  refine ol_nil_then ?_
  refine cd_cond_f rfl rfl ?_
  refine cd_skip ?_
  refine px_then ?_
  refine cd_sr ?_
  refine oq (op_move (v := .int _ _) rfl) ?_
  refine oi (os_call cb_17 rfl (fun w s => Name_calls _  s )) ?_; rintro _ l ⟨rfl, rfl⟩
  refine oq (op_move (v := .int _ _) rfl) ?_
  refine oi (os_call cb_17 rfl (fun w s => Name_calls _  s )) ?_; rintro _ l ⟨rfl, rfl⟩
  refine oi (os_alloc (cs := (rootC Root.zero).toArray) zB_24 (by kernel_rfl)) ?_; rintro _ _ ⟨bx1, rfl, rfl⟩
  refine oi (os_alloc (cs := (rootC Root.zero).toArray) zB_24 (by kernel_rfl)) ?_; rintro _ _ ⟨bx2, rfl, rfl⟩
  refine ol_pull1 ?_
  refine oN (os_storera _ ag_24 rfl rfl (Free.zero _)) ?_; rintro _ _ ⟨rfl, rfl⟩
  refine ol_pull1 ?_
  refine oN (os_storera _ ag_24 rfl rfl (Free.zero _)) ?_; rintro _ _ ⟨rfl, rfl⟩
  refine ol_nil_then ?_
  have hO := OKM.run xs
  have hw := hO.1.wf
  have hN1 := hw.le
  have hN2 := hw.m2
  have hN0 := hw.ne
  have hol := ownM_len xs
  have hok := ownM_ok xs
  have hrl := roots_len (runM xs).1
  rcases hix0 : idxOf (runM xs).1.nodes (nameR a) with _ | x0
  ·
   refine cd_sr ?_
   refine oq (op_move (v := .pointer _) rfl) ?_
   refine oq (op_move (v := .pointer _) rfl) ?_
   refine oq (op_lda (L := rootC _) 1 ag_24 rfl rfl (rootC_take' _) (by simp [rootC_len])) ?_
   refine ol_pull3 ?_
   refine ol_pull3 ?_
   refine oi (os_call cb_16 rfl (fun w s => PAllN_calls _ _ _ _ _  s (by assumption))) ?_; rintro _ _ ⟨rfl, rfl⟩
   refine oq (op_move (v := .tuple _) rfl) ?_
   refine oq (op_extract (v := .pointer _) rfl rfl) ?_
   refine oq (op_extract (v := .pointer _) rfl rfl) ?_
   refine oq (op_extract (v := .int _ _) rfl rfl) ?_
   refine oq (op_assign (v := .pointer _) rfl) ?_
   refine oq (op_assign (v := .pointer _) rfl) ?_
   refine oq (op_assign (v := .int _ _) rfl) ?_
   refine ol_nil_then ?_
   refine cd_seq ?_
   refine cd_sr ?_
   refine oq (op_move (v := .int _ _) rfl) ?_
   refine oq (op_ne rfl rfl) ?_
   refine oq (op_move (v := .bool _) rfl) ?_
   refine ol_split 47 rfl (fun hb1 => ?_) (fun hb1 => ?_)
   ·have hp1 := hb1
    (try simp only [bn] at hp1)
    refine ol_skip (wn_some rfl rfl rfl hb1 rfl) rfl ?_
    refine ol_skip (wn_some rfl rfl rfl hb1 rfl) rfl ?_
    refine ol_skip (wn_some rfl rfl rfl hb1 rfl) rfl ?_
    refine ol_skip (wn_some rfl rfl rfl hb1 rfl) rfl ?_
    refine ol_skip (wn_some rfl rfl rfl hb1 rfl) rfl ?_
    refine oq (op_pick_t (v := .bool _) rfl hb1 rfl) ?_
    refine ol_nil_then ?_
    refine cd_cond_t rfl rfl ?_
    refine cd_sr ?_
    refine oq (op_assign (v := .bool _) rfl) ?_
    refine ol_nil_then ?_
    refine cd_ret ?_
    refine px_thenR ?_
    exact px_ret1 rfl (v := .bool _) rfl (fun _ s => ((((((s.del 5).del 4).del 3).del 2).del 1).del 0)) ⟨congrArg Value.bool (by first | rfl | simp), rfl⟩
   ·have hp1 := hb1
    (try simp only [bn] at hp1)
    exact absurd hb1 (by decide)
  ·
   refine cd_sr ?_
   refine oq (op_move (v := .pointer _) rfl) ?_
   refine oq (op_move (v := .pointer _) rfl) ?_
   refine oq (op_lda (L := rootC _) 1 ag_24 rfl rfl (rootC_take' _) (by simp [rootC_len])) ?_
   refine ol_pull3 ?_
   refine ol_pull3 ?_
   refine oi (os_call cb_16 rfl (fun w s => PAllS_calls _ _ _ _ _ _  s (by assumption) (by first | assumption | omega) (by assumption))) ?_; rintro _ _ ⟨pq5, qw5, rfl, rfl⟩
   refine oq (op_move (v := .tuple _) rfl) ?_
   refine oq (op_extract (v := .pointer _) rfl rfl) ?_
   refine oq (op_extract (v := .pointer _) rfl rfl) ?_
   refine oq (op_extract (v := .int _ _) rfl rfl) ?_
   refine oq (op_assign (v := .pointer _) rfl) ?_
   refine oq (op_assign (v := .pointer _) rfl) ?_
   refine oq (op_assign (v := .int _ _) rfl) ?_
   refine ol_nil_then ?_
   refine cd_seq ?_
   refine cd_sr ?_
   refine oq (op_move (v := .int _ _) rfl) ?_
   refine oq (op_ne rfl rfl) ?_
   refine oq (op_move (v := .bool _) rfl) ?_
   refine ol_split 47 rfl (fun hb2 => ?_) (fun hb2 => ?_)
   ·have hp2 := hb2
    (try simp only [bn] at hp2)
    exact absurd hb2 (by decide)
   ·have hp2 := hb2
    (try simp only [bn] at hp2)
    refine ol_q (wn_some rfl rfl rfl hb2 rfl) (op_move (v := .pointer _) rfl) rfl ?_
    refine ol_q (wn_some rfl rfl rfl hb2 rfl) (op_lda (L := rootC _) 5 ag_24 rfl rfl (rootC_take' _) (by simp [rootC_len])) rfl ?_
    refine ol_q (wn_some rfl rfl rfl hb2 rfl) (op_lda (L := rootC _) 4 ag_24 rfl rfl (rootC_take' _) (by simp [rootC_len])) rfl ?_
    refine ol_pull2 ?_
    refine ol_i (wn_some rfl rfl rfl hb2 rfl) (os_call cb_30 rfl (fun w s => Below_calls _ _ _ _  s )) rfl ?_; rintro _ _ ⟨rfl, rfl⟩
    refine ol_q (wn_some rfl rfl rfl hb2 rfl) (op_not rfl) rfl ?_
    refine oq (op_pick_f (v := .bool _) rfl hb2 rfl) ?_
    refine ol_nil_then ?_
    refine cd_cond rfl (fun hb3 => ?_) (fun hb3 => ?_)
    ·have hp3 := hb3
     (try simp only [bn] at hp3)
     refine cd_sr ?_
     refine oq (op_assign (v := .bool _) rfl) ?_
     refine ol_nil_then ?_
     refine cd_ret ?_
     refine px_thenR ?_
     exact px_ret1 rfl (v := .bool _) rfl (fun _ s => ((((((((s.del 7).del 6).del 5).del 4).del 3).del 2).del 1).del 0)) ⟨congrArg Value.bool (by first | rfl | simp), rfl⟩
    ·have hp3 := hb3
     (try simp only [bn] at hp3)
     obtain ⟨y0, hiy, hyl, hab⟩ := below_idx hw hix0 (by simpa using hb3)
     refine cd_skip ?_
     refine px_then ?_
     have hip := idx_prT hw hiy hab
     have hle1 := prO_le (t := (runM xs).1) x0 (ownM xs)
     have hok1 := prO_ok hw.pa (Nat.le_of_eq hol) (idxOf_lt hix0) hok
     refine cd_sr ?_
     refine oq (op_move (v := .pointer _) rfl) ?_
     refine oq (op_move (v := .pointer _) rfl) ?_
     refine oq (op_lda (L := rootC _) 4 ag_24 rfl rfl (rootC_take' _) (by simp [rootC_len])) ?_
     refine ol_pull2 ?_
     refine ol_pull2 ?_
     refine oi (os_call cb_16 rfl (fun w s => PAllS_calls _ _ _ _ _ _  s hip hle1 hok1)) ?_; rintro _ _ ⟨pq7, qw7, rfl, rfl⟩; rw [prT_twice hw hyl hab, prO_twice hw hyl hab]
     refine oq (op_move (v := .tuple _) rfl) ?_
     refine oq (op_extract (v := .pointer _) rfl rfl) ?_
     refine oq (op_extract (v := .pointer _) rfl rfl) ?_
     refine oq (op_extract (v := .int _ _) rfl rfl) ?_
     refine oq (op_assign (v := .pointer _) rfl) ?_
     refine oq (op_assign (v := .pointer _) rfl) ?_
     refine oq (op_assign (v := .int _ _) rfl) ?_
     refine ol_nil_then ?_
     have hw3 := prT_wf hw hyl
     have hN3 := hw3.le
     have hN4 := hw3.m2
     have hpos := prO_pos (t := (runM xs).1) hyl (ownM xs)
     have hple := prO_le (t := (runM xs).1) y0 (ownM xs)
     refine cd_sr ?_
     refine oq (op_move (v := .pointer _) rfl) ?_
     refine oq (op_move (v := .pointer _) rfl) ?_
     refine oq (op_lda (L := rootC _) 6 ag_24 rfl rfl (rootC_take' _) (by simp [rootC_len])) ?_
     refine ol_pull5 ?_
     refine ol_pull5 ?_
     refine oi (os_call cb_16 rfl (fun w s => PAllS_calls _ _ _ _ _ _  s hiy (Nat.le_of_eq hol) hok)) ?_; rintro _ _ ⟨pq8, qw8, rfl, rfl⟩
     refine oq (op_move (v := .tuple _) rfl) ?_
     refine oq (op_extract (v := .pointer _) rfl rfl) ?_
     refine oq (op_extract (v := .pointer _) rfl rfl) ?_
     refine oq (op_extract (v := .int _ _) rfl rfl) ?_
     refine oq (op_assign (v := .pointer _) rfl) ?_
     refine oq (op_assign (v := .pointer _) rfl) ?_
     refine oq (op_assign (v := .int _ _) rfl) ?_
     refine ol_nil_then ?_
     refine cd_pull1 ?_
     refine cd_pull5 ?_
     refine cd_pull2 ?_
     refine cd_pull5 ?_
     refine cd_seq ?_
     refine cd_drawe (M := [_, _, _, _]) mx [8, 10, 11, 15, 17, 23, 26, 31, 33] ?_
     refine e_q 0 rfl (wn_none rfl) (op_move (v := .int _ _) rfl) ?_
     refine e_q 1 rfl (wn_none rfl) (op_eq rfl rfl) ?_
     refine e_q 2 rfl (wn_none rfl) (op_move (v := .bool _) rfl) ?_
     refine et_split 72 rfl (fun hb4 => ?_) (fun hb4 => ?_)
     ·have hp4 := hb4
      (try simp only [bn] at hp4)
      refine e_q 3 rfl (wn_some rfl rfl rfl hb4 rfl) (op_move (v := .int _ _) rfl) ?_
      refine e_q 4 rfl (wn_some rfl rfl rfl hb4 rfl) (op_eq rfl rfl) ?_
      refine e_q 5 rfl (wn_none rfl) (op_pick_t (v := .bool _) rfl hb4 rfl) ?_
      refine e_q 6 rfl (wn_none rfl) (op_move (v := .bool _) rfl) ?_
      refine et_split 76 rfl (fun hb5 => ?_) (fun hb5 => ?_)
      ·have hp5 := hb5
       (try simp only [bn] at hp5)
       refine e_q 7 rfl (wn_some rfl rfl rfl hb5 rfl) (op_move (v := .pointer _) rfl) ?_
       refine e_q 9 rfl (wn_some rfl rfl rfl hb5 rfl) (op_move (v := .pointer _) rfl) ?_
       refine et_1 (i := 8) (by kernel_rfl) ?_
       refine ei_i rfl rfl (wn_some rfl rfl rfl hb5 rfl) (os_call cb_20 rfl (fun w s => Roots_calls _ _  s )) rfl ?_; rintro _ _ ⟨ao9, ac9, rfl, rfl⟩; refine ⟨[_, _, _, _, _], rfl, ?_⟩
       refine et_1 (i := 10) (by kernel_rfl) ?_
       refine ei_i rfl rfl (wn_some rfl rfl rfl hb5 rfl) (os_pull2 (os_call cb_20 rfl (fun w s => Roots_calls _ _  s ))) rfl ?_; rintro _ _ ⟨ao10, ac10, rfl, rfl⟩; refine ⟨[_, _, _, _, _, _], rfl, ?_⟩
       refine et_1 (i := 11) (by kernel_rfl) ?_
       refine ei_i rfl rfl (wn_some rfl rfl rfl hb5 rfl) (os_call cb_19 rfl (fun w s => Same_calls _ _ _ _ _ _  s (rds_row 2 rfl rfl) (rds_row 0 rfl rfl) (by rw [roots_len]; omega))) rfl ?_; rintro _ l ⟨rfl, rfl⟩; refine ⟨[_, _, _, _, _, _], rfl, ?_⟩
       refine e_q 12 rfl (wn_none rfl) (op_pick_t (v := .bool _) rfl hb5 rfl) ?_
       refine e_q 13 rfl (wn_none rfl) (op_move (v := .bool _) rfl) ?_
       refine et_split 83 rfl (fun hb6 => ?_) (fun hb6 => ?_)
       ·have hp6 := hb6
        (try simp only [bn] at hp6)
        refine e_q 14 rfl (wn_some rfl rfl rfl hb6 rfl) (op_move (v := .pointer _) rfl) ?_
        refine e_q 16 rfl (wn_some rfl rfl rfl hb6 rfl) (op_move (v := .pointer _) rfl) ?_
        refine et_1 (i := 15) (by kernel_rfl) ?_
        refine ei_i rfl rfl (wn_some rfl rfl rfl hb6 rfl) (os_pull4 (os_pull4 (os_call cb_22 rfl (fun w s => Head_calls _ _ _ _  s hple hpos)))) rfl ?_; rintro _ _ ⟨rfl, rfl⟩; refine ⟨[_, _, _, _, _, _], rfl, ?_⟩
        refine et_1 (i := 17) (by kernel_rfl) ?_
        refine ei_i rfl rfl (wn_some rfl rfl rfl hb6 rfl) (os_pull5 (os_pull4 (os_call cb_22 rfl (fun w s => Head_calls _ _ _ _  s hple hpos)))) rfl ?_; rintro _ _ ⟨rfl, rfl⟩; refine ⟨[_, _, _, _, _, _], rfl, ?_⟩
        refine e_q 18 rfl (wn_some rfl rfl rfl hb6 rfl) (op_eqroot _ _ rB_24 rfl rfl) ?_
        refine e_q 19 rfl (wn_none rfl) (op_pick_t (v := .bool _) rfl hb6 rfl) ?_
        refine e_q 20 rfl (wn_none rfl) (op_move (v := .bool _) rfl) ?_
        refine et_split 90 rfl (fun hb7 => ?_) (fun hb7 => ?_)
        ·have hp7 := hb7
         (try simp only [bn] at hp7)
         refine e_q 21 rfl (wn_some rfl rfl rfl hb7 rfl) (op_move (v := .pointer _) rfl) ?_
         refine e_q 22 rfl (wn_some rfl rfl rfl hb7 rfl) (op_lda (L := rootC _) 4 ag_24 rfl rfl (rootC_take' _) (by simp [rootC_len])) ?_
         refine e_q 24 rfl (wn_some rfl rfl rfl hb7 rfl) (op_move (v := .pointer _) rfl) ?_
         refine e_q 25 rfl (wn_some rfl rfl rfl hb7 rfl) (op_lda (L := rootC _) 4 ag_24 rfl rfl (rootC_take' _) (by simp [rootC_len])) ?_
         refine et_1 (i := 23) (by kernel_rfl) ?_
         refine ei_i rfl rfl (wn_some rfl rfl rfl hb7 rfl) (os_pull3 (os_pull3 (os_call cb_28 rfl (fun w s => Weight_calls _ _ _ _ _  s )))) rfl ?_; rintro _ _ ⟨rfl, rfl⟩; refine ⟨[_, _, _, _, _, _], rfl, ?_⟩
         refine et_1 (i := 26) (by kernel_rfl) ?_
         refine ei_i rfl rfl (wn_some rfl rfl rfl hb7 rfl) (os_pull3 (os_pull3 (os_call cb_28 rfl (fun w s => Weight_calls _ _ _ _ _  s )))) rfl ?_; rintro _ _ ⟨rfl, rfl⟩; refine ⟨[_, _, _, _, _, _], rfl, ?_⟩
         refine e_q 27 rfl (wn_some rfl rfl rfl hb7 rfl) (op_eq rfl rfl) ?_
         refine e_q 28 rfl (wn_none rfl) (op_pick_t (v := .bool _) rfl hb7 rfl) ?_
         refine e_q 29 rfl (wn_none rfl) (op_move (v := .bool _) rfl) ?_
         refine et_split 99 rfl (fun hb8 => ?_) (fun hb8 => ?_)
         ·have hp8 := hb8
          (try simp only [bn] at hp8)
          refine e_q 30 rfl (wn_some rfl rfl rfl hb8 rfl) (op_move (v := .pointer _) rfl) ?_
          refine e_q 32 rfl (wn_some rfl rfl rfl hb8 rfl) (op_move (v := .pointer _) rfl) ?_
          refine et_1 (i := 31) (by kernel_rfl) ?_
          refine ei_i rfl rfl (wn_some rfl rfl rfl hb8 rfl) (os_back (os_pull2 (os_call cb_21 rfl (fun w s => Room_calls _ _  s ))) (fun _ s => (s.push 2))) rfl ?_; rintro _ _ ⟨rfl, rfl⟩; refine ⟨[_, _, _, _, _, _], rfl, ?_⟩
          refine et_1 (i := 33) (by kernel_rfl) ?_
          refine ei_i rfl rfl (wn_some rfl rfl rfl hb8 rfl) (os_call cb_21 rfl (fun w s => Room_calls _ _  s )) rfl ?_; rintro _ _ ⟨rfl, rfl⟩; refine ⟨[_, _, _, _, _, _], rfl, ?_⟩
          refine e_q 34 rfl (wn_some rfl rfl rfl hb8 rfl) (op_eq rfl rfl) ?_
          refine e_q 35 rfl (wn_none rfl) (op_pick_t (v := .bool _) rfl hb8 rfl) ?_
          refine e_q 36 rfl (wn_none rfl) (op_assign (v := .bool _) rfl) ?_
          refine et_nil_then (by kernel_rfl) ?_
          refine cd_ret ?_
          exact px_ret1 rfl (v := .bool _) rfl (fun _ s => ((((((((((((((s.del 13).del 12).del 11).del 10).del 9).del 8).del 7).del 6).del 5).del 4).del 3).del 2).del 1).del 0)) ⟨congrArg Value.bool (by first | rfl | simp), rfl⟩
         ·have hp8 := hb8
          (try simp only [bn] at hp8)
          exact absurd hb8 (by simp)
        ·have hp7 := hb7
         (try simp only [bn] at hp7)
         exact absurd hb7 (by simp)
       ·have hp6 := hb6
        (try simp only [bn] at hp6)
        exact absurd hb6 (by simp)
      ·have hp5 := hb5
       (try simp only [bn] at hp5)
       exact absurd hb5 (by decide)
     ·have hp4 := hb4
      (try simp only [bn] at hp4)
      exact absurd hb4 (by decide)

set_option maxRecDepth 100000 in
set_option maxHeartbeats 1000000 in
theorem PruneKeeps_calls {w0 w : World} {l : List HProp} (lo : Option Addr) (lc : Nat) (xs : List PBlk) (root : Int) (hs : Sat w0 w (l)) (hr : Rds w0 l encPBlk lo xs) (hq : ∀ a ∈ xs, I64 a.root ∧ I64 a.parent ∧ I64 a.slot ∧ I64 a.n) :
  Calls Try.prog 7 #[.slice lo xs.length lc, .int .i64 root] w (Ret w0 fun v l' => v = .bool true ∧ l' = l) := by
 refine calls_enter Try.func7 rfl rfl rfl hs ?_
 refine cd_sr ?_
 refine oq (op_assign (v := .bool _) rfl) ?_
 refine ol_nil_then ?_
 refine cd_seq ?_
 refine cd_sr ?_
 refine oi (os_call cb_13 rfl (fun w s => pAlive_calls  s )) ?_; rintro _ l ⟨rfl, rfl⟩
 refine oq (op_not rfl) ?_
 refine ol_nil_then ?_
 refine cd_cond_f rfl rfl ?_
 refine cd_skip ?_
 refine px_then ?_
 refine cd_sr ?_
 refine oq (op_move (v := .slice _ _ _) rfl) ?_
 refine oi (os_call cb_14 rfl (fun w s => pMade_calls _ _ _ s hr)) ?_; rintro _ l2 (⟨hbad1, rfl, hl2⟩ | ⟨hxl1, pt1, pw1, pr1, pm1, rfl, rfl⟩)
 ·rw [hl2]
  refine oq (op_move (v := .tuple _) rfl) ?_
  refine oq (op_extract (v := .pointer _) rfl rfl) ?_
  refine oq (op_extract (v := .pointer _) rfl rfl) ?_
  refine oq (op_extract (v := .pointer _) rfl rfl) ?_
  refine oq (op_extract (v := .bool _) rfl rfl) ?_
  refine oq (op_assign (v := .pointer _) rfl) ?_
  refine oq (op_assign (v := .pointer _) rfl) ?_
  refine oq (op_assign (v := .pointer _) rfl) ?_
  refine oq (op_assign (v := .bool _) rfl) ?_
  refine ol_nil_then ?_
  refine cd_seq ?_
  refine cd_sr ?_
  refine oq (op_move (v := .bool _) rfl) ?_
  refine oq (op_not rfl) ?_
  refine ol_nil_then ?_
  refine cd_cond_t rfl rfl ?_
  refine cd_sr ?_
  refine oq (op_assign (v := .bool _) rfl) ?_
  refine ol_nil_then ?_
  refine cd_ret ?_
  refine px_thenR ?_
  exact px_ret1 rfl (v := .bool _) rfl (fun _ s => s) ⟨congrArg Value.bool (by first | rfl | simp), rfl⟩
 ·skip
  refine oq (op_move (v := .tuple _) rfl) ?_
  refine oq (op_extract (v := .pointer _) rfl rfl) ?_
  refine oq (op_extract (v := .pointer _) rfl rfl) ?_
  refine oq (op_extract (v := .pointer _) rfl rfl) ?_
  refine oq (op_extract (v := .bool _) rfl rfl) ?_
  refine oq (op_assign (v := .pointer _) rfl) ?_
  refine oq (op_assign (v := .pointer _) rfl) ?_
  refine oq (op_assign (v := .pointer _) rfl) ?_
  refine oq (op_assign (v := .bool _) rfl) ?_
  refine ol_nil_then ?_
  refine cd_seq ?_
  refine cd_sr ?_
  refine oq (op_move (v := .bool _) rfl) ?_
  refine oq (op_not rfl) ?_
  refine ol_nil_then ?_
  refine cd_cond_f rfl rfl ?_
  refine cd_skip ?_
  refine px_then ?_
  refine cd_sr ?_
  refine oq (op_move (v := .int _ _) rfl) ?_
  refine oi (os_call cb_17 rfl (fun w s => Name_calls _  s )) ?_; rintro _ l ⟨rfl, rfl⟩
  refine oi (os_alloc (cs := (rootC Root.zero).toArray) zB_24 (by kernel_rfl)) ?_; rintro _ _ ⟨bx1, rfl, rfl⟩
  refine oN (os_storera _ ag_24 rfl rfl (Free.zero _)) ?_; rintro _ _ ⟨rfl, rfl⟩
  refine ol_nil_then ?_
  have hO := OKM.run xs
  have hw := hO.1.wf
  have hN1 := hw.le
  have hN2 := hw.m2
  have hN0 := hw.ne
  have hol := ownM_len xs
  have hok := ownM_ok xs
  have hrl := roots_len (runM xs).1
  rcases hix0 : idxOf (runM xs).1.nodes (nameR root) with _ | x0
  ·
   refine cd_sr ?_
   refine oq (op_move (v := .pointer _) rfl) ?_
   refine oq (op_move (v := .pointer _) rfl) ?_
   refine oq (op_lda (L := rootC _) 0 ag_24 rfl rfl (rootC_take' _) (by simp [rootC_len])) ?_
   refine ol_pull2 ?_
   refine ol_pull2 ?_
   refine oi (os_call cb_16 rfl (fun w s => PAllN_calls _ _ _ _ _  s (by assumption))) ?_; rintro _ _ ⟨rfl, rfl⟩
   refine oq (op_move (v := .tuple _) rfl) ?_
   refine oq (op_extract (v := .pointer _) rfl rfl) ?_
   refine oq (op_extract (v := .pointer _) rfl rfl) ?_
   refine oq (op_extract (v := .int _ _) rfl rfl) ?_
   refine oq (op_assign (v := .pointer _) rfl) ?_
   refine oq (op_assign (v := .pointer _) rfl) ?_
   refine oq (op_assign (v := .int _ _) rfl) ?_
   refine ol_nil_then ?_
   refine cd_seq ?_
   refine cd_sr ?_
   refine oq (op_move (v := .int _ _) rfl) ?_
   refine oq (op_ne rfl rfl) ?_
   refine ol_nil_then ?_
   refine cd_cond rfl (fun hb1 => ?_) (fun hb1 => ?_)
   ·have hp1 := hb1
    (try simp only [bn] at hp1)
    have hpn : (runM xs).1.place (nameR root) = -1 := by unfold TreeS.place; rw [hix0]
    refine cd_sr ?_
    refine oq (op_move (v := .pointer _) rfl) ?_
    refine oq (op_lda (L := rootC _) 2 ag_24 rfl rfl (rootC_take' _) (by simp [rootC_len])) ?_
    refine oi (os_call cb_31 rfl (fun w s => Place_calls _ _ _  s )) ?_; rintro _ _ ⟨rfl, rfl⟩; rw [hpn]
    refine oq (op_lt rfl rfl) ?_
    refine oq (op_assign (v := .bool _) rfl) ?_
    refine ol_nil_then ?_
    refine cd_ret ?_
    refine px_thenR ?_
    exact px_ret1 rfl (v := .bool _) rfl (fun _ s => (((((s.del 4).del 3).del 2).del 1).del 0)) ⟨congrArg Value.bool (by first | rfl | simp), rfl⟩
   ·have hp1 := hb1
    (try simp only [bn] at hp1)
    exact absurd hb1 (by decide)
  ·
   refine cd_sr ?_
   refine oq (op_move (v := .pointer _) rfl) ?_
   refine oq (op_move (v := .pointer _) rfl) ?_
   refine oq (op_lda (L := rootC _) 0 ag_24 rfl rfl (rootC_take' _) (by simp [rootC_len])) ?_
   refine ol_pull2 ?_
   refine ol_pull2 ?_
   refine oi (os_call cb_16 rfl (fun w s => PAllS_calls _ _ _ _ _ _  s (by assumption) (by first | assumption | omega) (by assumption))) ?_; rintro _ _ ⟨pq5, qw5, rfl, rfl⟩
   refine oq (op_move (v := .tuple _) rfl) ?_
   refine oq (op_extract (v := .pointer _) rfl rfl) ?_
   refine oq (op_extract (v := .pointer _) rfl rfl) ?_
   refine oq (op_extract (v := .int _ _) rfl rfl) ?_
   refine oq (op_assign (v := .pointer _) rfl) ?_
   refine oq (op_assign (v := .pointer _) rfl) ?_
   refine oq (op_assign (v := .int _ _) rfl) ?_
   refine ol_nil_then ?_
   refine cd_seq ?_
   refine cd_sr ?_
   refine oq (op_move (v := .int _ _) rfl) ?_
   refine oq (op_ne rfl rfl) ?_
   refine ol_nil_then ?_
   refine cd_cond rfl (fun hb2 => ?_) (fun hb2 => ?_)
   ·have hp2 := hb2
    (try simp only [bn] at hp2)
    exact absurd hb2 (by decide)
   ·have hp2 := hb2
    (try simp only [bn] at hp2)
    refine cd_skip ?_
    refine px_then ?_
    refine cd_seq ?_
    have hxl0 := idxOf_lt hix0
    have hple := prO_le (t := (runM xs).1) x0 (ownM xs)
    have hpos := prO_pos (t := (runM xs).1) hxl0 (ownM xs)
    have hlf := leaf_lt hw hol
    have hbh : (runM xs).1.below (nameR root) (headW (runM xs).1.nodes (ownM xs)) = belI (runM xs).1.nodes x0 (((leafN (runM xs).1.nodes (oA (sumL (runM xs).1.nodes (ownM xs))) (ownM xs).length 0) : Nat) : Int) := below_rt hw hix0 hlf
    refine cd_sr ?_
    refine oq (op_move (v := .pointer _) rfl) ?_
    refine ol_pull2 ?_
    refine oi (os_call cb_20 rfl (fun w s => Roots_calls _ _  s )) ?_; rintro _ _ ⟨ao6, ac6, rfl, rfl⟩
    refine oq (op_len_slice Try.underlying37 rfl) ?_
    refine oq (op_move (v := .int _ _) rfl) ?_
    refine ol_nil_then ?_
    refine cd_block ?_
    refine cd_loop2 (α := Nat) [(4, 4), (14, 18), (49, 95)] (fun x => [(49, .int .i64 (x : Int))]) (fun _ => _) (fun x => x ≤ (runM xs).1.roots.length) (fun x => (runM xs).1.roots.length - x) 0 (Nat.zero_le _) ⟨rfl, trivial⟩ (fun _ s => s) ?_
    rintro i hi f; (try dsimp only at hi ⊢)
    refine cd_sr ?_
    refine oq (op_lt rfl rfl) ?_
    refine ol_nil_then ?_
    refine cd_seq ?_
    refine cd_cond rfl (fun hb3 => ?_) (fun hb3 => ?_)
    ·have hp3 := hb3
     (try simp only [bn] at hp3)
     have hi1 : i < (runM xs).1.nodes.length := by omega
     refine cd_skip ?_
     refine px_then ?_
     refine cd_seq ?_
     refine cd_block ?_
     refine cd_sr ?_
     refine oq (op_index i sB_37 rfl rfl rfl (rds_row 0 rfl rfl) rfl (by omega)) ?_
     refine oq (op_ldaw (L := rootC _) ag_24 (rds_row 0 rfl rfl) rfl (by omega) rfl (rootC_ta _)) ?_
     refine oi (os_alloc (cs := (rootC Root.zero).toArray) zB_24 (by kernel_rfl)) ?_; rintro _ _ ⟨bx2, rfl, rfl⟩
     refine oN (os_storera _ ag_24 rfl rfl (Free.zero _)) ?_; rintro _ _ ⟨rfl, rfl⟩
     refine ol_nil_then ?_
     refine cd_seq ?_
     rw [roots_at (t := (runM xs).1) (i := i) (by omega)]
     have hbl2 := below_rt hw hix0 (i := i) (by omega)
     have hpu := place_pr (a := x0) hw (i := i) (by omega)
     rcases hbq : belI (runM xs).1.nodes x0 (i : Int)
     ·
      rw [hbq] at hbl2 hpu
      rw [if_neg (by decide)] at hpu
      refine cd_pull2 ?_
      refine cd_seq ?_
      refine cd_draw (M := [_]) mx [2, 7] (by kernel_rfl) ?_
      refine rg_q (wn_none rfl) (op_move (v := .pointer _) rfl) rfl rfl ?_
      refine rg_q (wn_none rfl) (op_lda (L := rootC _) 0 ag_24 rfl rfl (rootC_take' _) (by simp [rootC_len])) rfl rfl ?_
      refine rg_i (wn_none rfl) (os_back (os_pull3 (os_call cb_31 rfl (fun w s => Place_calls _ _ _  s ))) (fun _ s => (((((((((s.pull 8).pull 8).pull 8).pull 8).pull 8).pull 5).pull 8).pull 8).pull 8))) rfl rfl ?_; rintro _ _ ⟨rfl, rfl⟩; rw [hpu]; refine ⟨[_], rfl, ?_⟩
      refine rg_q (wn_none rfl) (op_ge rfl rfl) rfl rfl ?_
      refine rg_q (wn_none rfl) (op_move (v := .pointer _) rfl) rfl rfl ?_
      refine rg_q (wn_none rfl) (op_lda (L := rootC _) 5 ag_24 rfl rfl (rootC_take' _) (by simp [rootC_len])) rfl rfl ?_
      refine rg_q (wn_none rfl) (op_lda (L := rootC _) 0 ag_24 rfl rfl (rootC_take' _) (by simp [rootC_len])) rfl rfl ?_
      refine rg_i (wn_none rfl) (os_call cb_30 rfl (fun w s => Below_calls _ _ _ _  s )) rfl rfl ?_; rintro _ l ⟨rfl, rfl⟩; rw [hbl2]; refine ⟨[_], rfl, ?_⟩
      refine rg_q (wn_none rfl) (op_bneq Try.underlying4 rfl rfl) rfl rfl ?_
      refine rg_nil_then1 ?_
      refine cd_cond rfl (fun hb4 => ?_) (fun hb4 => ?_)
      ·have hp4 := hb4
       (try simp only [bn] at hp4)
       exact absurd hb4 (by simp)
      ·have hp4 := hb4
       (try simp only [bn] at hp4)
       refine cd_skip ?_
       refine px_then ?_
       refine cd_seq ?_
       refine cd_sr ?_
       refine oq (op_move (v := .pointer _) rfl) ?_
       refine oq (op_lda (L := rootC _) 1 ag_24 rfl rfl (rootC_take' _) (by simp [rootC_len])) ?_
       refine ol_pull3 ?_
       refine oi (os_call cb_31 rfl (fun w s => Place_calls _ _ _  s )) ?_; rintro _ _ ⟨rfl, rfl⟩; rw [hpu]
       refine oq (op_lt rfl rfl) ?_
       refine ol_nil_then ?_
       refine cd_cond rfl (fun hb5 => ?_) (fun hb5 => ?_)
       ·have hp5 := hb5
        (try simp only [bn] at hp5)
        refine cd_exit ?_
        refine px_thenE ?_
        refine px_blockE ?_
        refine px_then ?_
        refine cd_region ?_
        refine oq (op_add rfl rfl (by omega) (by omega)) ?_
        refine oq (op_move (v := .int _ _) rfl) ?_
        refine ol_nil ?_
        refine px_pull8 ?_
        refine px_pull8 ?_
        refine px_pull8 ?_
        refine px_pull8 ?_
        refine px_pull8 ?_
        refine px_pull5 ?_
        refine px_pull6 ?_
        refine px_pull8 ?_
        refine px_loop2 (i + 1) (by omega) (by (try dsimp only); omega) ⟨congrArg (Value.int .i64) (by simp), trivial⟩ ?_ (fun _ s => (s.del 8))
        repeat (first | exact kept_over | refine kept_upd rfl ?_ | refine kept_overS (by decide) ?_)
       ·have hp5 := hb5
        (try simp only [bn] at hp5)
        exact absurd hb5 (by simp)
     ·
      rw [hbq] at hbl2 hpu
      rw [if_pos rfl] at hpu
      refine cd_pull2 ?_
      refine cd_seq ?_
      refine cd_draw (M := [_]) mx [2, 7] (by kernel_rfl) ?_
      refine rg_q (wn_none rfl) (op_move (v := .pointer _) rfl) rfl rfl ?_
      refine rg_q (wn_none rfl) (op_lda (L := rootC _) 0 ag_24 rfl rfl (rootC_take' _) (by simp [rootC_len])) rfl rfl ?_
      refine rg_i (wn_none rfl) (os_back (os_pull3 (os_call cb_31 rfl (fun w s => Place_calls _ _ _  s ))) (fun _ s => (((((((((s.pull 8).pull 8).pull 8).pull 8).pull 8).pull 5).pull 8).pull 8).pull 8))) rfl rfl ?_; rintro _ _ ⟨rfl, rfl⟩; rw [hpu]; refine ⟨[_], rfl, ?_⟩
      refine rg_q (wn_none rfl) (op_ge rfl rfl) rfl rfl ?_
      refine rg_q (wn_none rfl) (op_move (v := .pointer _) rfl) rfl rfl ?_
      refine rg_q (wn_none rfl) (op_lda (L := rootC _) 5 ag_24 rfl rfl (rootC_take' _) (by simp [rootC_len])) rfl rfl ?_
      refine rg_q (wn_none rfl) (op_lda (L := rootC _) 0 ag_24 rfl rfl (rootC_take' _) (by simp [rootC_len])) rfl rfl ?_
      refine rg_i (wn_none rfl) (os_call cb_30 rfl (fun w s => Below_calls _ _ _ _  s )) rfl rfl ?_; rintro _ l ⟨rfl, rfl⟩; rw [hbl2]; refine ⟨[_], rfl, ?_⟩
      refine rg_q (wn_none rfl) (op_bneq Try.underlying4 rfl rfl) rfl rfl ?_
      refine rg_nil_then1 ?_
      refine cd_cond rfl (fun hb6 => ?_) (fun hb6 => ?_)
      ·have hp6 := hb6
       (try simp only [bn] at hp6)
       exact absurd hb6 (by simp)
      ·have hp6 := hb6
       (try simp only [bn] at hp6)
       refine cd_skip ?_
       refine px_then ?_
       refine cd_seq ?_
       refine cd_sr ?_
       refine oq (op_move (v := .pointer _) rfl) ?_
       refine oq (op_lda (L := rootC _) 1 ag_24 rfl rfl (rootC_take' _) (by simp [rootC_len])) ?_
       refine ol_pull3 ?_
       refine oi (os_call cb_31 rfl (fun w s => Place_calls _ _ _  s )) ?_; rintro _ _ ⟨rfl, rfl⟩; rw [hpu]
       refine oq (op_lt rfl rfl) ?_
       refine ol_nil_then ?_
       refine cd_cond rfl (fun hb7 => ?_) (fun hb7 => ?_)
       ·have hp7 := hb7
        (try simp only [bn] at hp7)
        exact absurd hb7 (by simp)
       ·have hp7 := hb7
        (try simp only [bn] at hp7)
        refine cd_skip ?_
        refine px_then ?_
        refine cd_sr ?_
        refine oq (op_move (v := .pointer _) rfl) ?_
        refine oq (op_lda (L := rootC _) 2 ag_24 rfl rfl (rootC_take' _) (by simp [rootC_len])) ?_
        refine ol_pull5 ?_
        refine ol_pull2 ?_
        refine oi (os_call cb_32 rfl (fun w s => Best_calls _ _ _ _ _  s (by omega))) ?_; rintro _ _ ⟨rfl, rfl⟩
        refine oq (op_move (v := .tuple _) rfl) ?_
        refine oq (op_extract (v := .agg _) rfl rfl) ?_
        refine oq (op_extract (v := .bool _) rfl rfl) ?_
        refine oi (os_alloc (cs := (rootC Root.zero).toArray) zB_24 (by kernel_rfl)) ?_; rintro _ _ ⟨bx3, rfl, rfl⟩
        refine oN (os_storera _ ag_24 rfl rfl (Free.zero _)) ?_; rintro _ _ ⟨rfl, rfl⟩
        refine oq (op_assign (v := .bool _) rfl) ?_
        refine ol_nil_then ?_
        refine cd_sr ?_
        refine oq (op_move (v := .pointer _) rfl) ?_
        refine oq (op_lda (L := rootC _) 4 ag_24 rfl rfl (rootC_take' _) (by simp [rootC_len])) ?_
        refine ol_pull6 ?_
        refine ol_pull4 ?_
        refine oi (os_call cb_32 rfl (fun w s => Best_calls _ _ _ _ _  s hple)) ?_; rintro _ _ ⟨rfl, rfl⟩; rw [bestR_pr hw hxl0 hol (by omega) hbq]
        refine oq (op_move (v := .tuple _) rfl) ?_
        refine oq (op_extract (v := .agg _) rfl rfl) ?_
        refine oq (op_extract (v := .bool _) rfl rfl) ?_
        refine oi (os_alloc (cs := (rootC Root.zero).toArray) zB_24 (by kernel_rfl)) ?_; rintro _ _ ⟨bx4, rfl, rfl⟩
        refine oN (os_storera _ ag_24 rfl rfl (Free.zero _)) ?_; rintro _ _ ⟨rfl, rfl⟩
        refine oq (op_assign (v := .bool _) rfl) ?_
        refine ol_nil_then ?_
        refine cd_pull4 ?_
        refine cd_pull5 ?_
        refine cd_pull3 ?_
        refine cd_pull4 ?_
        refine cd_seq ?_
        refine cd_draw (M := [_, _, _, _]) mx [2, 5] (by kernel_rfl) ?_
        refine rg_q (wn_none rfl) (op_move (v := .pointer _) rfl) rfl rfl ?_
        refine rg_q (wn_none rfl) (op_lda (L := rootC _) 2 ag_24 rfl rfl (rootC_take' _) (by simp [rootC_len])) rfl rfl ?_
        refine rg_i (wn_none rfl) (os_pull1 (os_call cb_28 rfl (fun w s => Weight_calls _ _ _ _ _  s ))) rfl rfl ?_; rintro _ l ⟨rfl, rfl⟩; rw [weight_pr hw hxl0 hol (by omega) hbq]; refine ⟨[_, _, _, _], rfl, ?_⟩
        refine rg_q (wn_none rfl) (op_move (v := .pointer _) rfl) rfl rfl ?_
        refine rg_q (wn_none rfl) (op_lda (L := rootC _) 2 ag_24 rfl rfl (rootC_take' _) (by simp [rootC_len])) rfl rfl ?_
        refine rg_i (wn_none rfl) (os_pull2 (os_pull3 (os_call cb_28 rfl (fun w s => Weight_calls _ _ _ _ _  s )))) rfl rfl ?_; rintro _ _ ⟨rfl, rfl⟩; refine ⟨[_, _, _, _], rfl, ?_⟩
        refine rg_q (wn_none rfl) (op_ne rfl rfl) rfl rfl ?_
        refine rg_q (wn_none rfl) (op_move (v := .bool _) rfl) rfl rfl ?_
        refine rg_split 85 rfl (fun hb8 => ?_) (fun hb8 => ?_)
        ·have hp8 := hb8
         (try simp only [bn] at hp8)
         exact absurd hb8 (by simp)
        ·have hp8 := hb8
         (try simp only [bn] at hp8)
         refine rg_q (wn_some rfl rfl rfl hb8 rfl) (op_lda (L := rootC _) 1 ag_24 rfl rfl (rootC_take' _) (by simp [rootC_len])) rfl rfl ?_
         refine rg_q (wn_some rfl rfl rfl hb8 rfl) (op_lda (L := rootC _) 0 ag_24 rfl rfl (rootC_take' _) (by simp [rootC_len])) rfl rfl ?_
         refine rg_q (wn_some rfl rfl rfl hb8 rfl) (op_neroot _ _ rB_24 rfl rfl) rfl rfl ?_
         refine rg_q (wn_none rfl) (op_pick_f (v := .bool _) rfl hb8 rfl) rfl rfl ?_
         refine rg_q (wn_none rfl) (op_move (v := .bool _) rfl) rfl rfl ?_
         refine rg_split 90 rfl (fun hb9 => ?_) (fun hb9 => ?_)
         ·have hp9 := hb9
          (try simp only [bn] at hp9)
          exact absurd hb9 (by simp)
         ·have hp9 := hb9
          (try simp only [bn] at hp9)
          refine rg_q (wn_some rfl rfl rfl hb9 rfl) (op_move (v := .bool _) rfl) rfl rfl ?_
          refine rg_q (wn_some rfl rfl rfl hb9 rfl) (op_move (v := .bool _) rfl) rfl rfl ?_
          refine rg_q (wn_some rfl rfl rfl hb9 rfl) (op_bneq Try.underlying4 rfl rfl) rfl rfl ?_
          refine rg_q (wn_none rfl) (op_pick_f (v := .bool _) rfl hb9 rfl) rfl rfl ?_
          refine rg_nil_then4 ?_
          refine cd_cond rfl (fun hb10 => ?_) (fun hb10 => ?_)
          ·have hp10 := hb10
           (try simp only [bn] at hp10)
           exact absurd hb10 (by simp)
          ·have hp10 := hb10
           (try simp only [bn] at hp10)
           refine cd_skip ?_
           refine px_blockN ?_
           refine px_then ?_
           refine cd_region ?_
           refine oq (op_add rfl rfl (by omega) (by omega)) ?_
           refine oq (op_move (v := .int _ _) rfl) ?_
           refine ol_nil ?_
           refine px_pull10 ?_
           refine px_pull10 ?_
           refine px_pull10 ?_
           refine px_pull4 ?_
           refine px_pull6 ?_
           refine px_pull6 ?_
           refine px_pull6 ?_
           refine px_pull10 ?_
           refine px_loop2 (i + 1) (by omega) (by (try dsimp only); omega) ⟨congrArg (Value.int .i64) (by simp), trivial⟩ ?_ (fun _ s => (((s.del 10).del 9).del 8))
           repeat (first | exact kept_over | refine kept_upd rfl ?_ | refine kept_overS (by decide) ?_)
    ·have hp3 := hb3
     (try simp only [bn] at hp3)
     refine cd_exit ?_
     refine px_thenE ?_
     refine px_thenE ?_
     refine px_blockE ?_
     refine px_then ?_
     refine cd_pull2 ?_
     refine cd_pull3 ?_
     refine cd_pull3 ?_
     refine cd_pull4 ?_
     refine cd_seq ?_
     refine cd_drawe (M := [_, _, _, _]) mx [3, 4, 8, 10] ?_
     refine e_q 0 rfl (wn_none rfl) (op_move (v := .pointer _) rfl) ?_
     refine e_q 1 rfl (wn_none rfl) (op_lda (L := rootC _) 1 ag_24 rfl rfl (rootC_take' _) (by simp [rootC_len])) ?_
     refine e_q 2 rfl (wn_none rfl) (op_move (v := .pointer _) rfl) ?_
     refine et_1 (i := 3) (by kernel_rfl) ?_
     refine ei_i rfl rfl (wn_none rfl) (os_pull1 (os_call cb_22 rfl (fun w s => Head_calls _ _ _ _  s (by omega) (by omega)))) rfl ?_; rintro _ _ ⟨rfl, rfl⟩; refine ⟨[_, _, _, _], rfl, ?_⟩
     refine et_1 (i := 4) (by kernel_rfl) ?_
     refine ei_i rfl rfl (wn_none rfl) (os_call cb_30 rfl (fun w s => Below_calls _ _ _ _  s )) rfl ?_; rintro _ l ⟨rfl, rfl⟩; rw [hbh]; refine ⟨[_, _, _, _], rfl, ?_⟩
     refine e_q 5 rfl (wn_none rfl) (op_not rfl) ?_
     refine e_q 6 rfl (wn_none rfl) (op_move (v := .bool _) rfl) ?_
     refine et_split 102 rfl (fun hb11 => ?_) (fun hb11 => ?_)
     ·have hp11 := hb11
      (try simp only [bn] at hp11)
      refine et_skip 7 (by kernel_rfl) rfl (by kernel_rfl) (wn_some rfl rfl rfl hb11 rfl) rfl ?_
      refine et_skip 9 (by kernel_rfl) rfl (by kernel_rfl) (wn_some rfl rfl rfl hb11 rfl) rfl ?_
      refine et_1 (i := 8) (by kernel_rfl) ?_
      refine ei_skip rfl (wn_some rfl rfl rfl hb11 rfl) rfl ?_
      refine et_1 (i := 10) (by kernel_rfl) ?_
      refine ei_skip rfl (wn_some rfl rfl rfl hb11 rfl) rfl ?_
      refine et_skip 11 (by kernel_rfl) rfl (by kernel_rfl) (wn_some rfl rfl rfl hb11 rfl) rfl ?_
      refine e_q 12 rfl (wn_none rfl) (op_pick_t (v := .bool _) rfl hb11 rfl) ?_
      refine e_q 13 rfl (wn_none rfl) (op_assign (v := .bool _) rfl) ?_
      refine et_nil_then (by kernel_rfl) ?_
      refine cd_ret ?_
      exact px_ret1 rfl (v := .bool _) rfl (fun _ s => ((((((((s.del 7).del 6).del 5).del 4).del 3).del 2).del 1).del 0)) ⟨congrArg Value.bool (by first | rfl | simp), rfl⟩
     ·have hp11 := hb11
      (try simp only [bn] at hp11)
      have hbb : belI (runM xs).1.nodes x0 (((leafN (runM xs).1.nodes (oA (sumL (runM xs).1.nodes (ownM xs))) (ownM xs).length 0) : Nat) : Int) = true := by simpa using hb11
      refine e_q 7 rfl (wn_some rfl rfl rfl hb11 rfl) (op_move (v := .pointer _) rfl) ?_
      refine e_q 9 rfl (wn_some rfl rfl rfl hb11 rfl) (op_move (v := .pointer _) rfl) ?_
      refine et_1 (i := 8) (by kernel_rfl) ?_
      refine ei_i rfl rfl (wn_some rfl rfl rfl hb11 rfl) (os_pull2 (os_pull3 (os_call cb_22 rfl (fun w s => Head_calls _ _ _ _  s hple hpos)))) rfl ?_; rintro _ l ⟨rfl, rfl⟩; rw [keep_head hw hxl0 hol hbb]; refine ⟨[_, _, _, _], rfl, ?_⟩
      refine et_1 (i := 10) (by kernel_rfl) ?_
      refine ei_i rfl rfl (wn_some rfl rfl rfl hb11 rfl) (os_pull3 (os_pull3 (os_call cb_22 rfl (fun w s => Head_calls _ _ _ _  s (by omega) (by omega))))) rfl ?_; rintro _ _ ⟨rfl, rfl⟩; refine ⟨[_, _, _, _], rfl, ?_⟩
      refine e_q 11 rfl (wn_some rfl rfl rfl hb11 rfl) (op_eqroot _ _ rB_24 rfl rfl) ?_
      refine e_q 12 rfl (wn_none rfl) (op_pick_f (v := .bool _) rfl hb11 rfl) ?_
      refine e_q 13 rfl (wn_none rfl) (op_assign (v := .bool _) rfl) ?_
      refine et_nil_then (by kernel_rfl) ?_
      refine cd_ret ?_
      exact px_ret1 rfl (v := .bool _) rfl (fun _ s => ((((((((s.del 7).del 6).del 5).del 4).del 3).del 2).del 1).del 0)) ⟨congrArg Value.bool (by first | rfl | simp), rfl⟩
end Go.SL

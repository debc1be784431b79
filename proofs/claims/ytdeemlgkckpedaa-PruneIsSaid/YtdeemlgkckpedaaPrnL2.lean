import Derived.Test.YtdeemlgkckpedaaPrnA
import Derived.Test.YtdeemlgkckpedaaPrn4
set_option linter.unusedVariables false
set_option linter.unusedSimpArgs false
namespace Go.SL
open Go.Proofs

set_option maxRecDepth 100000 in
set_option maxHeartbeats 1000000 in
theorem PruneLeaves_calls {w0 w : World} {l : List HProp} (lo : Option Addr) (lc : Nat) (xs : List PBlk) (hs : Sat w0 w (l)) (hr : Rds w0 l encPBlk lo xs) (hq : ∀ a ∈ xs, I64 a.root ∧ I64 a.parent ∧ I64 a.slot ∧ I64 a.n) :
  Calls Try.prog 5 #[.slice lo xs.length lc] w (Ret w0 fun v l' => v = .bool true ∧ l' = l) := by
 refine calls_enter Try.func5 rfl rfl rfl hs ?_
 refine cd_sr ?_
 refine oq (op_assign (v := .bool _) rfl) ?_
 refine ol_nil_then ?_
 refine cd_seq ?_
 refine cd_sr ?_
 refine oi (os_call cb_13 rfl (fun w s => pAlive_calls  s )) ?_; rintro _ l ⟨rfl, rfl⟩
 refine oq (op_not rfl) ?_
 refine ol_nil_then ?_
 refine cd_cond_f rfl rfl ?_
 refine cd_skip ?_
 refine px_then ?_
 refine cd_sr ?_
 refine oq (op_move (v := .slice _ _ _) rfl) ?_
 refine oi (os_call cb_14 rfl (fun w s => pMade_calls _ _ _ s hr)) ?_; rintro _ l2 (⟨hbad1, rfl, hl2⟩ | ⟨hxl1, pt1, pw1, pr1, pm1, rfl, rfl⟩)
 ·rw [hl2]
  refine oq (op_move (v := .tuple _) rfl) ?_
  refine oq (op_extract (v := .pointer _) rfl rfl) ?_
  refine oq (op_extract (v := .pointer _) rfl rfl) ?_
  refine oq (op_extract (v := .pointer _) rfl rfl) ?_
  refine oq (op_extract (v := .bool _) rfl rfl) ?_
  refine oq (op_assign (v := .pointer _) rfl) ?_
  refine oq (op_assign (v := .pointer _) rfl) ?_
  refine oq (op_assign (v := .pointer _) rfl) ?_
  refine oq (op_assign (v := .bool _) rfl) ?_
  refine ol_nil_then ?_
  refine cd_seq ?_
  refine cd_sr ?_
  refine oq (op_move (v := .bool _) rfl) ?_
  refine oq (op_not rfl) ?_
  refine ol_nil_then ?_
  refine cd_cond_t rfl rfl ?_
  refine cd_sr ?_
  refine oq (op_assign (v := .bool _) rfl) ?_
  refine ol_nil_then ?_
  refine cd_ret ?_
  refine px_thenR ?_
  exact px_ret1 rfl (v := .bool _) rfl (fun _ s => s) ⟨congrArg Value.bool (by first | rfl | simp), rfl⟩
 ·skip
  refine oq (op_move (v := .tuple _) rfl) ?_
  refine oq (op_extract (v := .pointer _) rfl rfl) ?_
  refine oq (op_extract (v := .pointer _) rfl rfl) ?_
  refine oq (op_extract (v := .pointer _) rfl rfl) ?_
  refine oq (op_extract (v := .bool _) rfl rfl) ?_
  refine oq (op_assign (v := .pointer _) rfl) ?_
  refine oq (op_assign (v := .pointer _) rfl) ?_
  refine oq (op_assign (v := .pointer _) rfl) ?_
  refine oq (op_assign (v := .bool _) rfl) ?_
  refine ol_nil_then ?_
  refine cd_seq ?_
  refine cd_sr ?_
  refine oq (op_move (v := .bool _) rfl) ?_
  refine oq (op_not rfl) ?_
  refine ol_nil_then ?_
  refine cd_cond_f rfl rfl ?_
  refine cd_skip ?_
  refine px_then ?_
  have hO := OKM.run xs
  have hw := hO.1.wf
  have hN1 := hw.le
  have hN2 := hw.m2
  have hN0 := hw.ne
  have hol := ownM_len xs
  have hok := ownM_ok xs
  have hrl := roots_len (runM xs).1
  have hi0 := idx_head hw hol
  have hil := leaf_lt hw hol
  have hple := prO_le (t := (runM xs).1) (leafN (runM xs).1.nodes (oA (sumL (runM xs).1.nodes (ownM xs))) (ownM xs).length 0) (ownM xs)
  have hpos := prO_pos (t := (runM xs).1) hil (ownM xs)
  have hwp : ofF (prT (runM xs).1 (leafN (runM xs).1.nodes (oA (sumL (runM xs).1.nodes (ownM xs))) (ownM xs).length 0)) (prO (runM xs).1.nodes (leafN (runM xs).1.nodes (oA (sumL (runM xs).1.nodes (ownM xs))) (ownM xs).length 0) (ownM xs)).length (sumN (prT (runM xs).1 (leafN (runM xs).1.nodes (oA (sumL (runM xs).1.nodes (ownM xs))) (ownM xs).length 0)).nodes (prO (runM xs).1.nodes (leafN (runM xs).1.nodes (oA (sumL (runM xs).1.nodes (ownM xs))) (ownM xs).length 0) (ownM xs))) (headW (runM xs).1.nodes (ownM xs)) = ofF (runM xs).1 (ownM xs).length (sumN (runM xs).1.nodes (ownM xs)) (headW (runM xs).1.nodes (ownM xs)) := weight_pr hw hil hol hil belI_eq
  refine cd_sr ?_
  refine oq (op_move (v := .pointer _) rfl) ?_
  refine oq (op_move (v := .pointer _) rfl) ?_
  refine oq (op_move (v := .pointer _) rfl) ?_
  refine ol_pull1 ?_
  refine ol_pull1 ?_
  refine oi (os_call cb_22 rfl (fun w s => Head_calls _ _ _ _  s (by omega) (by omega))) ?_; rintro _ _ ⟨rfl, rfl⟩
  refine ol_pull1 ?_
  refine ol_pull1 ?_
  refine oi (os_call cb_16 rfl (fun w s => PAllS_calls _ _ _ _ _ _  s hi0 (Nat.le_of_eq hol) hok)) ?_; rintro _ _ ⟨pq3, qw3, rfl, rfl⟩
  refine oq (op_move (v := .tuple _) rfl) ?_
  refine oq (op_extract (v := .pointer _) rfl rfl) ?_
  refine oq (op_extract (v := .pointer _) rfl rfl) ?_
  refine oq (op_extract (v := .int _ _) rfl rfl) ?_
  refine oq (op_assign (v := .pointer _) rfl) ?_
  refine oq (op_assign (v := .pointer _) rfl) ?_
  refine oq (op_assign (v := .int _ _) rfl) ?_
  refine ol_nil_then ?_
  refine cd_pull4 ?_
  refine cd_rtreeOpen ?_; intro a1 c1 a2 c2 a3 c3 R Sl Pa hwR hR
  refine cd_pull8 ?_
  refine cd_rwOpen ?_; intro a4 c4
  have hRl : R.length = (runM xs).1.nodes.length := by rw [hR.r, List.length_map]
  have hSl : Sl.length = (runM xs).1.nodes.length := by rw [hR.s, List.length_map]
  have hRe : decide ((runM xs).1.roots = R) = true := decide_eq_true hR.r.symm
  have hSr : ∀ q (h : q < Sl.length), Sl[q] = slA (runM xs).1.nodes q := fun q h => by simp only [hR.s, List.getElem_map]; exact (slA_get (by omega)).symm
  refine cd_pull8 ?_
  refine cd_pull9 ?_
  refine cd_pull8 ?_
  refine cd_pull9 ?_
  refine cd_seq ?_
  refine cd_drawe (M := [_, _, _, _]) mx [4, 9, 11, 17, 18, 21, 22, 27, 35, 39, 41] ?_
  refine e_q 0 rfl (wn_none rfl) (op_move (v := .int _ _) rfl) ?_
  refine e_q 1 rfl (wn_none rfl) (op_eq rfl rfl) ?_
  refine e_q 2 rfl (wn_none rfl) (op_move (v := .bool _) rfl) ?_
  refine et_split 32 rfl (fun hb1 => ?_) (fun hb1 => ?_)
  ·have hp1 := hb1
   (try simp only [bn] at hp1)
   refine e_q 3 rfl (wn_some rfl rfl rfl hb1 rfl) (op_move (v := .pointer _) rfl) ?_
   refine et_1 (i := 4) (by kernel_rfl) ?_
   refine ei_i rfl rfl (wn_some rfl rfl rfl hb1 rfl) (os_back (os_pull1 (os_call cb_29 rfl (fun w s => Len_calls _ _  s ))) (fun _ s => ((((((((((s.pull 9).pull 9).pull 9).pull 9).pull 9).pull 9).pull 9).pull 9).pull 8).pull 9))) rfl ?_; rintro _ l ⟨rfl, rfl⟩; rw [leaf_one hw hol]; refine ⟨[_, _, _, _], rfl, ?_⟩
   refine e_q 5 rfl (wn_some rfl rfl rfl hb1 rfl) (op_eq rfl rfl) ?_
   refine e_q 6 rfl (wn_none rfl) (op_pick_t (v := .bool _) rfl hb1 rfl) ?_
   refine e_q 7 rfl (wn_none rfl) (op_move (v := .bool _) rfl) ?_
   refine et_split 37 rfl (fun hb2 => ?_) (fun hb2 => ?_)
   ·have hp2 := hb2
    (try simp only [bn] at hp2)
    refine e_q 8 rfl (wn_some rfl rfl rfl hb2 rfl) (op_move (v := .pointer _) rfl) ?_
    refine e_q 10 rfl (wn_some rfl rfl rfl hb2 rfl) (op_move (v := .pointer _) rfl) ?_
    refine et_1 (i := 9) (by kernel_rfl) ?_
    refine ei_i rfl rfl (wn_some rfl rfl rfl hb2 rfl) (os_pull1 (os_call cb_22 rfl (fun w s => Head_calls _ _ _ _  s hple hpos))) rfl ?_; rintro _ l ⟨rfl, rfl⟩; rw [keep_head hw hil hol belI_eq]; refine ⟨[_, _, _, _], rfl, ?_⟩
    refine et_1 (i := 11) (by kernel_rfl) ?_
    refine ei_i rfl rfl (wn_some rfl rfl rfl hb2 rfl) (os_pull2 (os_pull3 (os_call cb_22 rfl (fun w s => Head_calls _ _ _ _  s (by omega) (by omega))))) rfl ?_; rintro _ _ ⟨rfl, rfl⟩; refine ⟨[_, _, _, _], rfl, ?_⟩
    refine e_q 12 rfl (wn_some rfl rfl rfl hb2 rfl) (op_eqroot _ _ rB_24 rfl rfl) ?_
    refine e_q 13 rfl (wn_none rfl) (op_pick_t (v := .bool _) rfl hb2 rfl) ?_
    refine e_q 14 rfl (wn_none rfl) (op_move (v := .bool _) rfl) ?_
    refine et_split 44 rfl (fun hb3 => ?_) (fun hb3 => ?_)
    ·have hp3 := hb3
     (try simp only [bn] at hp3)
     refine e_q 15 rfl (wn_some rfl rfl rfl hb3 rfl) (op_move (v := .pointer _) rfl) ?_
     refine e_q 16 rfl (wn_some rfl rfl rfl hb3 rfl) (op_move (v := .pointer _) rfl) ?_
     refine e_q 19 rfl (wn_some rfl rfl rfl hb3 rfl) (op_move (v := .pointer _) rfl) ?_
     refine e_q 20 rfl (wn_some rfl rfl rfl hb3 rfl) (op_move (v := .pointer _) rfl) ?_
     refine et_1 (i := 17) (by kernel_rfl) ?_
     refine ei_i rfl rfl (wn_some rfl rfl rfl hb3 rfl) (os_pull1 (os_pull1 (os_call cb_22 rfl (fun w s => Head_calls _ _ _ _  s (by omega) (by omega))))) rfl ?_; rintro _ _ ⟨rfl, rfl⟩; refine ⟨[_, _, _, _], rfl, ?_⟩
     refine et_1 (i := 18) (by kernel_rfl) ?_
     refine ei_i rfl rfl (wn_some rfl rfl rfl hb3 rfl) (os_pull3 (os_pull3 (os_call cb_28 rfl (fun w s => Weight_calls _ _ _ _ _  s )))) rfl ?_; rintro _ l ⟨rfl, rfl⟩; rw [hwp]; refine ⟨[_, _, _, _], rfl, ?_⟩
     refine et_1 (i := 21) (by kernel_rfl) ?_
     refine ei_i rfl rfl (wn_some rfl rfl rfl hb3 rfl) (os_pull3 (os_pull3 (os_call cb_22 rfl (fun w s => Head_calls _ _ _ _  s (by omega) (by omega))))) rfl ?_; rintro _ _ ⟨rfl, rfl⟩; refine ⟨[_, _, _, _], rfl, ?_⟩
     refine et_1 (i := 22) (by kernel_rfl) ?_
     refine ei_i rfl rfl (wn_some rfl rfl rfl hb3 rfl) (os_pull1 (os_pull1 (os_call cb_28 rfl (fun w s => Weight_calls _ _ _ _ _  s )))) rfl ?_; rintro _ _ ⟨rfl, rfl⟩; refine ⟨[_, _, _, _], rfl, ?_⟩
     refine e_q 23 rfl (wn_some rfl rfl rfl hb3 rfl) (op_eq rfl rfl) ?_
     refine e_q 24 rfl (wn_none rfl) (op_pick_t (v := .bool _) rfl hb3 rfl) ?_
     refine e_q 25 rfl (wn_none rfl) (op_move (v := .bool _) rfl) ?_
     refine et_split 55 rfl (fun hb4 => ?_) (fun hb4 => ?_)
     ·have hp4 := hb4
      (try simp only [bn] at hp4)
      refine e_q 26 rfl (wn_some rfl rfl rfl hb4 rfl) (op_move (v := .pointer _) rfl) ?_
      refine e_q 28 rfl (wn_some rfl rfl rfl hb4 rfl) (op_move (v := .pointer _) rfl) ?_
      refine e_q 29 rfl (wn_some rfl rfl rfl hb4 rfl) (op_nilck rfl) ?_
      refine e_q 30 rfl (wn_some rfl rfl rfl hb4 rfl) (op_field fld_47_0 rfl) ?_
      refine e_q 31 rfl (wn_some rfl rfl rfl hb4 rfl) (op_ld 0 sc_45 rfl rfl rfl) ?_
      refine e_q 32 rfl (wn_some rfl rfl rfl hb4 rfl) (op_nilck rfl) ?_
      refine e_q 33 rfl (wn_some rfl rfl rfl hb4 rfl) (op_field fld_44_0 rfl) ?_
      refine e_q 34 rfl (wn_some rfl rfl rfl hb4 rfl) (op_ld 2 sc_37 rfl rfl rfl) ?_
      refine et_1 (i := 27) (by kernel_rfl) ?_
      refine ei_i rfl rfl (wn_some rfl rfl rfl hb4 rfl) (os_call cb_20 rfl (fun w s => Roots_calls _ _  s )) rfl ?_; rintro _ _ ⟨ao11, ac11, rfl, rfl⟩; refine ⟨[_, _, _, _, _], rfl, ?_⟩
      refine et_1 (i := 35) (by kernel_rfl) ?_
      refine ei_i rfl rfl (wn_some rfl rfl rfl hb4 rfl) (os_call cb_19 rfl (fun w s => Same_calls _ _ _ _ _ _  s (rds_row 0 rfl rfl) (rds_row 8 rfl rfl) (by rw [roots_len]; omega))) rfl ?_; rintro _ l ⟨rfl, rfl⟩; rw [hRe]; refine ⟨[_, _, _, _, _], rfl, ?_⟩
      refine e_q 36 rfl (wn_none rfl) (op_pick_t (v := .bool _) rfl hb4 rfl) ?_
      refine e_q 37 rfl (wn_none rfl) (op_move (v := .bool _) rfl) ?_
      refine et_split 67 rfl (fun hb5 => ?_) (fun hb5 => ?_)
      ·have hp5 := hb5
       (try simp only [bn] at hp5)
       refine e_q 38 rfl (wn_some rfl rfl rfl hb5 rfl) (op_move (v := .pointer _) rfl) ?_
       refine e_q 40 rfl (wn_some rfl rfl rfl hb5 rfl) (op_move (v := .pointer _) rfl) ?_
       refine et_1 (i := 39) (by kernel_rfl) ?_
       refine ei_i rfl rfl (wn_some rfl rfl rfl hb5 rfl) (os_pull2 (os_pull2 (os_call cb_22 rfl (fun w s => Head_calls _ _ _ _  s (by omega) (by omega))))) rfl ?_; rintro _ _ ⟨rfl, rfl⟩; refine ⟨[_, _, _, _, _], rfl, ?_⟩
       refine et_1 (i := 41) (by kernel_rfl) ?_
       refine ei_i rfl rfl (wn_some rfl rfl rfl hb5 rfl) (os_back (os_pull6 (os_pull6 (os_pull10 (os_pull10 (os_pull10 (os_pull10 (os_call cb_23 rfl (fun w s => RHeadWO_calls _ _ _ _ _ _ _ _ _ _ _ _ _ _ _  s (by assumption) (by assumption) (by first | assumption | omega) (by assumption) (by first | assumption | omega))))))))) (fun _ s => (((((((((((s.pull 3).pull 3).pull 3).pull 3).pull 5).pull 5).pull 10).pull 10).pull 10).pull 10).pull 10))) rfl ?_; rintro _ _ ⟨rfl, rfl⟩; refine ⟨[_, _, _, _, _], rfl, ?_⟩
       refine e_q 42 rfl (wn_some rfl rfl rfl hb5 rfl) (op_eqroot _ _ rB_24 rfl rfl) ?_
       refine e_q 43 rfl (wn_none rfl) (op_pick_t (v := .bool _) rfl hb5 rfl) ?_
       refine e_q 44 rfl (wn_none rfl) (op_assign (v := .bool _) rfl) ?_
       refine et_nil_then (by kernel_rfl) ?_
       refine cd_ret ?_
       exact px_ret1 rfl (v := .bool _) rfl (fun _ s => (((((((((((s.del 10).del 9).del 8).del 7).del 6).del 5).del 4).del 3).del 2).del 1).del 0)) ⟨congrArg Value.bool (by first | rfl | simp), rfl⟩
      ·have hp5 := hb5
       (try simp only [bn] at hp5)
       exact absurd hb5 (by simp)
     ·have hp4 := hb4
      (try simp only [bn] at hp4)
      exact absurd hb4 (by simp)
    ·have hp3 := hb3
     (try simp only [bn] at hp3)
     exact absurd hb3 (by simp)
   ·have hp2 := hb2
    (try simp only [bn] at hp2)
    exact absurd hb2 (by simp)
  ·have hp1 := hb1
   (try simp only [bn] at hp1)
   exact absurd hb1 (by decide)

set_option maxRecDepth 100000 in
set_option maxHeartbeats 1000000 in
theorem PruneIs_calls {w0 w : World} {l : List HProp} (lo : Option Addr) (lc : Nat) (xs : List PBlk) (root : Int) (odd : Root) (hs : Sat w0 w (l)) (hr : Rds w0 l encPBlk lo xs) (hq : ∀ a ∈ xs, I64 a.root ∧ I64 a.parent ∧ I64 a.slot ∧ I64 a.n) :
  Calls Try.prog 3 #[.slice lo xs.length lc, .int .i64 root, .agg (rootC odd).toArray] w (Ret w0 fun v l' => v = .bool true ∧ l' = l) := by
 refine calls_enter Try.func3 rfl rfl rfl hs ?_
 refine cd_sr ?_
 refine oi (os_boxa rfl) ?_; rintro _ _ ⟨bx1, rfl, rfl⟩
 refine oq (op_assign (v := .bool _) rfl) ?_
 refine ol_nil_then ?_
 refine cd_seq ?_
 refine cd_sr ?_
 refine oi (os_call cb_13 rfl (fun w s => pAlive_calls  s )) ?_; rintro _ l ⟨rfl, rfl⟩
 refine oq (op_not rfl) ?_
 refine ol_nil_then ?_
 refine cd_cond_f rfl rfl ?_
 refine cd_skip ?_
 refine px_then ?_
 refine cd_sr ?_
 refine oq (op_move (v := .slice _ _ _) rfl) ?_
 refine oi (os_call cb_14 rfl (fun w s => pMade_calls _ _ _ s (hr.cons _))) ?_; rintro _ l2 (⟨hbad1, rfl, hl2⟩ | ⟨hxl1, pt1, pw1, pr1, pm1, rfl, rfl⟩)
 ·rw [hl2]
  refine oq (op_move (v := .tuple _) rfl) ?_
  refine oq (op_extract (v := .pointer _) rfl rfl) ?_
  refine oq (op_extract (v := .pointer _) rfl rfl) ?_
  refine oq (op_extract (v := .pointer _) rfl rfl) ?_
  refine oq (op_extract (v := .bool _) rfl rfl) ?_
  refine oq (op_assign (v := .pointer _) rfl) ?_
  refine oq (op_assign (v := .pointer _) rfl) ?_
  refine oq (op_assign (v := .pointer _) rfl) ?_
  refine oq (op_assign (v := .bool _) rfl) ?_
  refine ol_nil_then ?_
  refine cd_seq ?_
  refine cd_sr ?_
  refine oq (op_move (v := .bool _) rfl) ?_
  refine oq (op_not rfl) ?_
  refine ol_nil_then ?_
  refine cd_cond_t rfl rfl ?_
  refine cd_sr ?_
  refine oq (op_assign (v := .bool _) rfl) ?_
  refine ol_nil_then ?_
  refine cd_ret ?_
  refine px_thenR ?_
  exact px_ret1 rfl (v := .bool _) rfl (fun _ s => (s.del 0)) ⟨congrArg Value.bool (by first | rfl | simp), rfl⟩
 ·skip
  refine oq (op_move (v := .tuple _) rfl) ?_
  refine oq (op_extract (v := .pointer _) rfl rfl) ?_
  refine oq (op_extract (v := .pointer _) rfl rfl) ?_
  refine oq (op_extract (v := .pointer _) rfl rfl) ?_
  refine oq (op_extract (v := .bool _) rfl rfl) ?_
  refine oq (op_assign (v := .pointer _) rfl) ?_
  refine oq (op_assign (v := .pointer _) rfl) ?_
  refine oq (op_assign (v := .pointer _) rfl) ?_
  refine oq (op_assign (v := .bool _) rfl) ?_
  refine ol_nil_then ?_
  refine cd_seq ?_
  refine cd_sr ?_
  refine oq (op_move (v := .bool _) rfl) ?_
  refine oq (op_not rfl) ?_
  refine ol_nil_then ?_
  refine cd_cond_f rfl rfl ?_
  refine cd_skip ?_
  refine px_then ?_
  have hO := OKM.run xs
  have hw := hO.1.wf
  have hN1 := hw.le
  have hN2 := hw.m2
  have hN0 := hw.ne
  have hol := ownM_len xs
  have hok := ownM_ok xs
  have hrl := roots_len (runM xs).1
  refine cd_sr ?_
  refine oq (op_lda (L := rootC _) 4 ag_24 rfl rfl (rootC_take' _) (by simp [rootC_len])) ?_
  refine oi (os_call cb_15 rfl (fun w s => PTreeN_nil _  s )) ?_; rintro _ l ⟨rfl, rfl⟩
  refine oq (op_move (v := .tuple _) rfl) ?_
  refine oq (op_extract (v := .pointer _) rfl rfl) ?_
  refine oq (op_extract (v := .int _ _) rfl rfl) ?_
  refine oq (op_assign (v := .pointer _) rfl) ?_
  refine oq (op_assign (v := .int _ _) rfl) ?_
  refine ol_nil_then ?_
  refine cd_sr ?_
  refine oq (op_move (v := .pointer _) rfl) ?_
  refine oq (op_lda (L := rootC _) 4 ag_24 rfl rfl (rootC_take' _) (by simp [rootC_len])) ?_
  refine oi (os_call cb_16 rfl (fun w s => PAllN_nil _ _  s )) ?_; rintro _ l ⟨rfl, rfl⟩
  refine oq (op_move (v := .tuple _) rfl) ?_
  refine oq (op_extract (v := .pointer _) rfl rfl) ?_
  refine oq (op_extract (v := .pointer _) rfl rfl) ?_
  refine oq (op_extract (v := .int _ _) rfl rfl) ?_
  refine oq (op_assign (v := .pointer _) rfl) ?_
  refine oq (op_assign (v := .pointer _) rfl) ?_
  refine oq (op_assign (v := .int _ _) rfl) ?_
  refine ol_nil_then ?_
  refine cd_seq ?_
  refine cd_sr ?_
  refine oq (op_move (v := .int _ _) rfl) ?_
  refine oq (op_ne rfl rfl) ?_
  refine oq (op_move (v := .bool _) rfl) ?_
  refine ol_split 54 rfl (fun hb1 => ?_) (fun hb1 => ?_)
  ·have hp1 := hb1
   (try simp only [bn] at hp1)
   exact absurd hb1 (by decide)
  ·have hp1 := hb1
   (try simp only [bn] at hp1)
   refine ol_q (wn_some rfl rfl rfl hb1 rfl) (op_move (v := .int _ _) rfl) rfl ?_
   refine ol_q (wn_some rfl rfl rfl hb1 rfl) (op_ne rfl rfl) rfl ?_
   refine oq (op_pick_f (v := .bool _) rfl hb1 rfl) ?_
   refine ol_nil_then ?_
   refine cd_cond rfl (fun hb2 => ?_) (fun hb2 => ?_)
   ·have hp2 := hb2
    (try simp only [bn] at hp2)
    exact absurd hb2 (by decide)
   ·have hp2 := hb2
    (try simp only [bn] at hp2)
    refine cd_skip ?_
    refine px_then ?_
    refine cd_seq ?_
    refine cd_seq ?_
    refine cd_draw (M := []) mx [1, 3] (by kernel_rfl) ?_
    refine rg_q (wn_none rfl) (op_move (v := .int _ _) rfl) rfl rfl ?_
    refine rg_i (wn_none rfl) (os_call cb_17 rfl (fun w s => Name_calls _  s )) rfl rfl ?_; rintro _ l ⟨rfl, rfl⟩; refine ⟨[], rfl, ?_⟩
    refine rg_q (wn_none rfl) (op_lda (L := rootC _) 4 ag_24 rfl rfl (rootC_take' _) (by simp [rootC_len])) rfl rfl ?_
    refine rg_i (wn_none rfl) (os_bslice (E := encRoot) [_, _] (ys := [nameR root, odd]) sB_37 zv_24 rfl rfl rfl rfl (by decide)) rfl rfl ?_; rintro _ _ ⟨ao1, rfl, rfl⟩; refine ⟨[_], rfl, ?_⟩
    refine rg_q (wn_none rfl) (op_len_slice Try.underlying37 rfl) rfl rfl ?_
    refine rg_q (wn_none rfl) (op_move (v := .int _ _) rfl) rfl rfl ?_
    refine rg_nil_then1 ?_
    refine cd_block ?_
    refine cd_loop2 (α := Nat) [(6, 6), (17, 28), (63, 224)] (fun x => [(63, .int .i64 (x : Int))]) (fun _ => _) (fun x => x ≤ 2) (fun x => 2 - x) 0 (Nat.zero_le _) ⟨rfl, trivial⟩ (fun _ s => s) ?_
    rintro j hj f; (try dsimp only at hj ⊢)
    refine cd_sr ?_
    refine oq (op_lt rfl rfl) ?_
    refine ol_nil_then ?_
    refine cd_seq ?_
    refine cd_cond rfl (fun hb3 => ?_) (fun hb3 => ?_)
    ·have hp3 := hb3
     (try simp only [bn] at hp3)
     have hj1 : j < 2 := by simp at hp3; omega
     refine cd_skip ?_
     refine px_then ?_
     refine cd_seq ?_
     refine cd_block ?_
     refine cd_sr ?_
     refine oq (op_index j sB_37 rfl rfl rfl (rds_row 0 rfl rfl) rfl (by omega)) ?_
     refine oq (op_ldaw (L := rootC _) ag_24 (rds_row 0 rfl rfl) rfl (by omega) rfl (rootC_ta _)) ?_
     refine oi (os_alloc (cs := (rootC Root.zero).toArray) zB_24 (by kernel_rfl)) ?_; rintro _ _ ⟨bx2, rfl, rfl⟩
     refine oN (os_storera _ ag_24 rfl rfl (Free.zero _)) ?_; rintro _ _ ⟨rfl, rfl⟩
     refine ol_nil_then ?_
     generalize hrj : ([nameR root, odd])[j] = rj
     rcases hix : idxOf (runM xs).1.nodes rj with _ | x0
     ·
      refine cd_sr ?_
      refine oq (op_move (v := .pointer _) rfl) ?_
      refine oq (op_move (v := .pointer _) rfl) ?_
      refine oq (op_lda (L := rootC _) 0 ag_24 rfl rfl (rootC_take' _) (by simp [rootC_len])) ?_
      refine ol_pull3 ?_
      refine ol_pull3 ?_
      refine oi (os_call cb_16 rfl (fun w s => PAllN_calls _ _ _ _ _  s (by assumption))) ?_; rintro _ _ ⟨rfl, rfl⟩
      refine oq (op_move (v := .tuple _) rfl) ?_
      refine oq (op_extract (v := .pointer _) rfl rfl) ?_
      refine oq (op_extract (v := .pointer _) rfl rfl) ?_
      refine oq (op_extract (v := .int _ _) rfl rfl) ?_
      refine oq (op_assign (v := .pointer _) rfl) ?_
      refine oq (op_assign (v := .pointer _) rfl) ?_
      refine oq (op_assign (v := .int _ _) rfl) ?_
      refine ol_nil_then ?_
      refine cd_sr ?_
      refine oq (op_move (v := .pointer _) rfl) ?_
      refine oq (op_lda (L := rootC _) 2 ag_24 rfl rfl (rootC_take' _) (by simp [rootC_len])) ?_
      refine oi (os_call cb_15 rfl (fun w s => PTreeN_calls _ _ _  s (by assumption))) ?_; rintro _ _ ⟨rfl, rfl⟩
      refine oq (op_move (v := .tuple _) rfl) ?_
      refine oq (op_extract (v := .pointer _) rfl rfl) ?_
      refine oq (op_extract (v := .int _ _) rfl rfl) ?_
      refine oq (op_assign (v := .pointer _) rfl) ?_
      refine oq (op_assign (v := .int _ _) rfl) ?_
      refine ol_nil_then ?_
      refine cd_sr ?_
      refine oq (op_move (v := .pointer _) rfl) ?_
      refine oq (op_lda (L := rootC _) 2 ag_24 rfl rfl (rootC_take' _) (by simp [rootC_len])) ?_
      refine ol_pull5 ?_
      refine ol_pull5 ?_
      refine oi (os_call cb_18 rfl (fun w s => RPAllN_calls _ _ _ _ _  s (by assumption))) ?_; rintro _ _ ⟨rfl, rfl⟩
      refine oq (op_move (v := .tuple _) rfl) ?_
      refine oq (op_extract (v := .pointer _) rfl rfl) ?_
      refine oq (op_extract (v := .bool _) rfl rfl) ?_
      refine oq (op_assign (v := .pointer _) rfl) ?_
      refine oq (op_assign (v := .bool _) rfl) ?_
      refine ol_nil_then ?_
      refine cd_seq ?_
      refine cd_sr ?_
      refine oq (op_move (v := .bool _) rfl) ?_
      refine oq (op_not rfl) ?_
      refine ol_nil_then ?_
      refine cd_cond_t rfl rfl ?_
      refine cd_seq ?_
      refine cd_sr ?_
      refine oq (op_move (v := .pointer _) rfl) ?_
      refine oq (op_nenil Try.underlying26 rfl rfl) ?_
      refine oq (op_move (v := .bool _) rfl) ?_
      refine ol_q (wn_some rfl rfl rfl rfl rfl) (op_move (v := .pointer _) rfl) rfl ?_
      refine ol_q (wn_some rfl rfl rfl rfl rfl) (op_nenil Try.underlying27 rfl rfl) rfl ?_
      refine oq (op_pick_f (v := .bool _) rfl rfl rfl) ?_
      refine oq (op_move (v := .bool _) rfl) ?_
      refine ol_q (wn_some rfl rfl rfl rfl rfl) (op_move (v := .pointer _) rfl) rfl ?_
      refine ol_q (wn_some rfl rfl rfl rfl rfl) (op_nenil Try.underlying26 rfl rfl) rfl ?_
      refine oq (op_pick_f (v := .bool _) rfl rfl rfl) ?_
      refine oq (op_move (v := .bool _) rfl) ?_
      refine ol_q (wn_some rfl rfl rfl rfl rfl) (op_move (v := .int _ _) rfl) rfl ?_
      refine ol_q (wn_some rfl rfl rfl rfl rfl) (op_ne rfl rfl) rfl ?_
      refine oq (op_pick_f (v := .bool _) rfl rfl rfl) ?_
      refine oq (op_move (v := .bool _) rfl) ?_
      refine ol_split 103 rfl (fun hb4 => ?_) (fun hb4 => ?_)
      ·have hp4 := hb4
       (try simp only [bn] at hp4)
       exact absurd hb4 (by decide)
      ·have hp4 := hb4
       (try simp only [bn] at hp4)
       refine ol_q (wn_some rfl rfl rfl hb4 rfl) (op_move (v := .int _ _) rfl) rfl ?_
       refine ol_q (wn_some rfl rfl rfl hb4 rfl) (op_ne rfl rfl) rfl ?_
       refine oq (op_pick_f (v := .bool _) rfl hb4 rfl) ?_
       refine ol_nil_then ?_
       refine cd_cond rfl (fun hb5 => ?_) (fun hb5 => ?_)
       ·have hp5 := hb5
        (try simp only [bn] at hp5)
        exact absurd hb5 (by decide)
       ·have hp5 := hb5
        (try simp only [bn] at hp5)
        refine cd_skip ?_
        refine px_then ?_
        refine cd_exit ?_
        refine px_thenE ?_
        refine px_blockE ?_
        refine px_then ?_
        refine cd_region ?_
        refine oq (op_add rfl rfl (by omega) (by omega)) ?_
        refine oq (op_move (v := .int _ _) rfl) ?_
        refine ol_nil ?_
        refine px_loop2 (j + 1) (by omega) (by (try dsimp only); omega) ⟨congrArg (Value.int .i64) (by simp), trivial⟩ ?_ (fun _ s => (((((((s.del 4).pull 5).pull 2).pull 2).pull 4).pull 4).pull 5))
        repeat (first | exact kept_over | refine kept_upd rfl ?_ | refine kept_overS (by decide) ?_)
     ·
      have hxl0 := idxOf_lt hix
      have hw3 := prT_wf hw hxl0
      have hN3 := hw3.le
      have hN4 := hw3.m2
      have hN5 : (prT (runM xs).1 x0).most = (runM xs).1.most := rfl
      have hple := prO_le (t := (runM xs).1) x0 (ownM xs)
      have hpos := prO_pos (t := (runM xs).1) hxl0 (ownM xs)
      have hok3 := prO_ok hw.pa (Nat.le_of_eq hol) hxl0 hok
      refine cd_sr ?_
      refine oq (op_move (v := .pointer _) rfl) ?_
      refine oq (op_move (v := .pointer _) rfl) ?_
      refine oq (op_lda (L := rootC _) 0 ag_24 rfl rfl (rootC_take' _) (by simp [rootC_len])) ?_
      refine ol_pull3 ?_
      refine ol_pull3 ?_
      refine oi (os_call cb_16 rfl (fun w s => PAllS_calls _ _ _ _ _ _  s (by assumption) (by first | assumption | omega) (by assumption))) ?_; rintro _ _ ⟨pq8, qw8, rfl, rfl⟩
      refine oq (op_move (v := .tuple _) rfl) ?_
      refine oq (op_extract (v := .pointer _) rfl rfl) ?_
      refine oq (op_extract (v := .pointer _) rfl rfl) ?_
      refine oq (op_extract (v := .int _ _) rfl rfl) ?_
      refine oq (op_assign (v := .pointer _) rfl) ?_
      refine oq (op_assign (v := .pointer _) rfl) ?_
      refine oq (op_assign (v := .int _ _) rfl) ?_
      refine ol_nil_then ?_
      refine cd_sr ?_
      refine oq (op_move (v := .pointer _) rfl) ?_
      refine oq (op_lda (L := rootC _) 4 ag_24 rfl rfl (rootC_take' _) (by simp [rootC_len])) ?_
      refine ol_pull2 ?_
      refine oi (os_call cb_15 rfl (fun w s => PTreeS_calls _ _ _ _  s (by assumption))) ?_; rintro _ _ ⟨pq9, rfl, rfl⟩
      refine oq (op_move (v := .tuple _) rfl) ?_
      refine oq (op_extract (v := .pointer _) rfl rfl) ?_
      refine oq (op_extract (v := .int _ _) rfl rfl) ?_
      refine oq (op_assign (v := .pointer _) rfl) ?_
      refine oq (op_assign (v := .int _ _) rfl) ?_
      refine ol_nil_then ?_
      refine cd_sr ?_
      refine oq (op_move (v := .pointer _) rfl) ?_
      refine oq (op_lda (L := rootC _) 5 ag_24 rfl rfl (rootC_take' _) (by simp [rootC_len])) ?_
      refine ol_pull8 ?_
      refine ol_pull8 ?_
      refine oi (os_call cb_18 rfl (fun w s => RPAllS_calls _ _ _ _ _ _  s (by assumption) (by first | assumption | omega))) ?_; rintro _ _ ⟨qm10, qr10, rfl, rfl⟩
      refine oq (op_move (v := .tuple _) rfl) ?_
      refine oq (op_extract (v := .pointer _) rfl rfl) ?_
      refine oq (op_extract (v := .bool _) rfl rfl) ?_
      refine oq (op_assign (v := .pointer _) rfl) ?_
      refine oq (op_assign (v := .bool _) rfl) ?_
      refine ol_nil_then ?_
      refine cd_seq ?_
      refine cd_sr ?_
      refine oq (op_move (v := .bool _) rfl) ?_
      refine oq (op_not rfl) ?_
      refine ol_nil_then ?_
      refine cd_cond_f rfl rfl ?_
      refine cd_skip ?_
      refine px_then ?_
      refine cd_seq ?_
      refine cd_rtreeOpen ?_; intro a1 c1 a2 c2 a3 c3 R Sl Pa hwR hR
      refine cd_pull4 ?_
      refine cd_rwOpen ?_; intro a4 c4
      have hRl : R.length = (prT (runM xs).1 x0).nodes.length := by rw [hR.r, List.length_map]
      have hSl : Sl.length = (prT (runM xs).1 x0).nodes.length := by rw [hR.s, List.length_map]
      have hRe : decide ((prT (runM xs).1 x0).roots = R) = true := decide_eq_true hR.r.symm
      have hSr : ∀ q (h : q < Sl.length), Sl[q] = slA (prT (runM xs).1 x0).nodes q := fun q h => by simp only [hR.s, List.getElem_map]; exact (slA_get (by omega)).symm
      refine cd_pull11 ?_
      refine cd_pull9 ?_
      refine cd_pull11 ?_
      refine cd_seq ?_
      refine cd_drawe (M := [_, _, _]) mx [8, 16, 21, 29, 34, 55, 57] ?_
      refine e_q 0 rfl (wn_none rfl) (op_move (v := .int _ _) rfl) ?_
      refine e_q 1 rfl (wn_none rfl) (op_ne rfl rfl) ?_
      refine e_q 2 rfl (wn_none rfl) (op_move (v := .bool _) rfl) ?_
      refine et_split 109 rfl (fun hb6 => ?_) (fun hb6 => ?_)
      ·have hp6 := hb6
       (try simp only [bn] at hp6)
       exact absurd hb6 (by decide)
      ·have hp6 := hb6
       (try simp only [bn] at hp6)
       refine e_q 3 rfl (wn_some rfl rfl rfl hb6 rfl) (op_move (v := .int _ _) rfl) ?_
       refine e_q 4 rfl (wn_some rfl rfl rfl hb6 rfl) (op_ne rfl rfl) ?_
       refine e_q 5 rfl (wn_none rfl) (op_pick_f (v := .bool _) rfl hb6 rfl) ?_
       refine e_q 6 rfl (wn_none rfl) (op_move (v := .bool _) rfl) ?_
       refine et_split 113 rfl (fun hb7 => ?_) (fun hb7 => ?_)
       ·have hp7 := hb7
        (try simp only [bn] at hp7)
        exact absurd hb7 (by decide)
       ·have hp7 := hb7
        (try simp only [bn] at hp7)
        refine e_q 7 rfl (wn_some rfl rfl rfl hb7 rfl) (op_move (v := .pointer _) rfl) ?_
        refine e_q 9 rfl (wn_some rfl rfl rfl hb7 rfl) (op_move (v := .pointer _) rfl) ?_
        refine e_q 10 rfl (wn_some rfl rfl rfl hb7 rfl) (op_nilck rfl) ?_
        refine e_q 11 rfl (wn_some rfl rfl rfl hb7 rfl) (op_field fld_47_0 rfl) ?_
        refine e_q 12 rfl (wn_some rfl rfl rfl hb7 rfl) (op_ld 0 sc_45 rfl rfl rfl) ?_
        refine e_q 13 rfl (wn_some rfl rfl rfl hb7 rfl) (op_nilck rfl) ?_
        refine e_q 14 rfl (wn_some rfl rfl rfl hb7 rfl) (op_field fld_44_0 rfl) ?_
        refine e_q 15 rfl (wn_some rfl rfl rfl hb7 rfl) (op_ld 2 sc_37 rfl rfl rfl) ?_
        refine et_1 (i := 8) (by kernel_rfl) ?_
        refine ei_i rfl rfl (wn_some rfl rfl rfl hb7 rfl) (os_call cb_20 rfl (fun w s => Roots_calls _ _  s )) rfl ?_; rintro _ _ ⟨ao11, ac11, rfl, rfl⟩; refine ⟨[_, _, _, _], rfl, ?_⟩
        refine et_1 (i := 16) (by kernel_rfl) ?_
        refine ei_i rfl rfl (wn_some rfl rfl rfl hb7 rfl) (os_call cb_19 rfl (fun w s => Same_calls _ _ _ _ _ _  s (rds_row 0 rfl rfl) (rds_row 7 rfl rfl) (by rw [roots_len]; omega))) rfl ?_; rintro _ l ⟨rfl, rfl⟩; rw [hRe]; refine ⟨[_, _, _, _], rfl, ?_⟩
        refine e_q 17 rfl (wn_some rfl rfl rfl hb7 rfl) (op_not rfl) ?_
        refine e_q 18 rfl (wn_none rfl) (op_pick_f (v := .bool _) rfl hb7 rfl) ?_
        refine e_q 19 rfl (wn_none rfl) (op_move (v := .bool _) rfl) ?_
        refine et_split 126 rfl (fun hb8 => ?_) (fun hb8 => ?_)
        ·have hp8 := hb8
         (try simp only [bn] at hp8)
         exact absurd hb8 (by simp)
        ·have hp8 := hb8
         (try simp only [bn] at hp8)
         refine e_q 20 rfl (wn_some rfl rfl rfl hb8 rfl) (op_move (v := .pointer _) rfl) ?_
         refine e_q 22 rfl (wn_some rfl rfl rfl hb8 rfl) (op_move (v := .pointer _) rfl) ?_
         refine e_q 23 rfl (wn_some rfl rfl rfl hb8 rfl) (op_nilck rfl) ?_
         refine e_q 24 rfl (wn_some rfl rfl rfl hb8 rfl) (op_field fld_47_0 rfl) ?_
         refine e_q 25 rfl (wn_some rfl rfl rfl hb8 rfl) (op_ld 0 sc_45 rfl rfl rfl) ?_
         refine e_q 26 rfl (wn_some rfl rfl rfl hb8 rfl) (op_nilck rfl) ?_
         refine e_q 27 rfl (wn_some rfl rfl rfl hb8 rfl) (op_field fld_44_0 rfl) ?_
         refine e_q 28 rfl (wn_some rfl rfl rfl hb8 rfl) (op_ld 2 sc_37 rfl rfl rfl) ?_
         refine et_1 (i := 21) (by kernel_rfl) ?_
         refine ei_i rfl rfl (wn_some rfl rfl rfl hb8 rfl) (os_pull2 (os_call cb_20 rfl (fun w s => Roots_calls _ _  s ))) rfl ?_; rintro _ _ ⟨ao13, ac13, rfl, rfl⟩; refine ⟨[_, _, _, _, _], rfl, ?_⟩
         refine et_1 (i := 29) (by kernel_rfl) ?_
         refine ei_i rfl rfl (wn_some rfl rfl rfl hb8 rfl) (os_call cb_19 rfl (fun w s => Same_calls _ _ _ _ _ _  s (rds_row 0 rfl rfl) (rds_row 8 rfl rfl) (by rw [roots_len]; omega))) rfl ?_; rintro _ l ⟨rfl, rfl⟩; rw [hRe]; refine ⟨[_, _, _, _, _], rfl, ?_⟩
         refine e_q 30 rfl (wn_some rfl rfl rfl hb8 rfl) (op_not rfl) ?_
         refine e_q 31 rfl (wn_none rfl) (op_pick_f (v := .bool _) rfl hb8 rfl) ?_
         refine e_q 32 rfl (wn_none rfl) (op_move (v := .bool _) rfl) ?_
         refine et_split 139 rfl (fun hb9 => ?_) (fun hb9 => ?_)
         ·have hp9 := hb9
          (try simp only [bn] at hp9)
          exact absurd hb9 (by simp)
         ·have hp9 := hb9
          (try simp only [bn] at hp9)
          refine e_q 33 rfl (wn_some rfl rfl rfl hb9 rfl) (op_move (v := .pointer _) rfl) ?_
          refine e_q 35 rfl (wn_some rfl rfl rfl hb9 rfl) (op_move (v := .pointer _) rfl) ?_
          refine e_q 36 rfl (wn_some rfl rfl rfl hb9 rfl) (op_nilck rfl) ?_
          refine e_q 37 rfl (wn_some rfl rfl rfl hb9 rfl) (op_field fld_47_0 rfl) ?_
          refine e_q 38 rfl (wn_some rfl rfl rfl hb9 rfl) (op_ld 0 sc_45 rfl rfl rfl) ?_
          refine e_q 39 rfl (wn_some rfl rfl rfl hb9 rfl) (op_nilck rfl) ?_
          refine e_q 40 rfl (wn_some rfl rfl rfl hb9 rfl) (op_field fld_44_3 rfl) ?_
          refine e_q 41 rfl (wn_some rfl rfl rfl hb9 rfl) (op_ld 2 sc_3 rfl rfl rfl) ?_
          refine e_q 42 rfl (wn_some rfl rfl rfl hb9 rfl) (op_move (v := .pointer _) rfl) ?_
          refine e_q 43 rfl (wn_some rfl rfl rfl hb9 rfl) (op_nilck rfl) ?_
          refine e_q 44 rfl (wn_some rfl rfl rfl hb9 rfl) (op_field fld_47_0 rfl) ?_
          refine e_q 45 rfl (wn_some rfl rfl rfl hb9 rfl) (op_ld 0 sc_45 rfl rfl rfl) ?_
          refine e_q 46 rfl (wn_some rfl rfl rfl hb9 rfl) (op_nilck rfl) ?_
          refine e_q 47 rfl (wn_some rfl rfl rfl hb9 rfl) (op_field fld_44_0 rfl) ?_
          refine e_q 48 rfl (wn_some rfl rfl rfl hb9 rfl) (op_ld 2 sc_37 rfl rfl rfl) ?_
          refine e_q 49 rfl (wn_some rfl rfl rfl hb9 rfl) (op_len_slice Try.underlying37 rfl) ?_
          refine e_q 50 rfl (wn_some rfl rfl rfl hb9 rfl) (op_sub rfl rfl (by omega) (by omega)) ?_
          refine et_1 (i := 34) (by kernel_rfl) ?_
          refine ei_i rfl rfl (wn_some rfl rfl rfl hb9 rfl) (os_back (os_pull3 (os_call cb_21 rfl (fun w s => Room_calls _ _  s ))) (fun _ s => (s.push 3))) rfl ?_; rintro _ _ ⟨rfl, rfl⟩; refine ⟨[_, _, _, _, _], rfl, ?_⟩
          refine e_q 51 rfl (wn_some rfl rfl rfl hb9 rfl) (op_ne rfl rfl) ?_
          refine e_q 52 rfl (wn_none rfl) (op_pick_f (v := .bool _) rfl hb9 rfl) ?_
          refine e_q 53 rfl (wn_none rfl) (op_move (v := .bool _) rfl) ?_
          refine et_split 160 rfl (fun hb10 => ?_) (fun hb10 => ?_)
          ·have hp10 := hb10
           (try simp only [bn] at hp10)
           exact absurd hb10 (by rw [hRl]; simp)
          ·have hp10 := hb10
           (try simp only [bn] at hp10)
           refine e_q 54 rfl (wn_some rfl rfl rfl hb10 rfl) (op_move (v := .pointer _) rfl) ?_
           refine e_q 56 rfl (wn_some rfl rfl rfl hb10 rfl) (op_move (v := .pointer _) rfl) ?_
           refine et_1 (i := 55) (by kernel_rfl) ?_
           refine ei_i rfl rfl (wn_some rfl rfl rfl hb10 rfl) (os_pull4 (os_pull4 (os_call cb_22 rfl (fun w s => Head_calls _ _ _ _  s hple hpos)))) rfl ?_; rintro _ _ ⟨rfl, rfl⟩; refine ⟨[_, _, _, _, _], rfl, ?_⟩
           refine et_1 (i := 57) (by kernel_rfl) ?_
           refine ei_i rfl rfl (wn_some rfl rfl rfl hb10 rfl) (os_back (os_pull6 (os_pull6 (os_pull10 (os_pull10 (os_pull10 (os_pull10 (os_call cb_23 rfl (fun w s => RHeadWO_calls _ _ _ _ _ _ _ _ _ _ _ _ _ _ _  s (by assumption) (by assumption) (by first | assumption | omega) (by assumption) (by first | assumption | omega))))))))) (fun _ s => ((((((s.push 10).push 10).push 10).push 10).push 6).push 6))) rfl ?_; rintro _ _ ⟨rfl, rfl⟩; refine ⟨[_, _, _, _, _], rfl, ?_⟩
           refine e_q 58 rfl (wn_some rfl rfl rfl hb10 rfl) (op_neroot _ _ rB_24 rfl rfl) ?_
           refine e_q 59 rfl (wn_none rfl) (op_pick_f (v := .bool _) rfl hb10 rfl) ?_
           refine et_nil_then (by kernel_rfl) ?_
           refine cd_cond rfl (fun hb11 => ?_) (fun hb11 => ?_)
           ·have hp11 := hb11
            (try simp only [bn] at hp11)
            exact absurd hb11 (by simp)
           ·have hp11 := hb11
            (try simp only [bn] at hp11)
            refine cd_skip ?_
            refine px_then ?_
            refine cd_sr ?_
            refine oq (op_move (v := .pointer _) rfl) ?_
            refine oq (op_nilck rfl) ?_
            refine oq (op_field fld_47_0 rfl) ?_
            refine oq (op_ld 5 sc_45 rfl rfl rfl) ?_
            refine oq (op_nilck rfl) ?_
            refine oq (op_field fld_44_0 rfl) ?_
            refine oq (op_ld 7 sc_37 rfl rfl rfl) ?_
            refine oq (op_len_slice Try.underlying37 rfl) ?_
            refine oq (op_move (v := .int _ _) rfl) ?_
            refine ol_nil_then ?_
            refine cd_block ?_
            refine cd_loop2 (α := Nat) [(6, 6), (25, 28), (175, 223)] (fun x => [(175, .int .i64 (x : Int))]) (fun _ => _) (fun x => x ≤ R.length) (fun x => R.length - x) 0 (Nat.zero_le _) ⟨rfl, trivial⟩ (fun _ s => s) ?_
            rintro i hi f; (try dsimp only at hi ⊢)
            refine cd_sr ?_
            refine oq (op_lt rfl rfl) ?_
            refine ol_nil_then ?_
            refine cd_seq ?_
            refine cd_cond rfl (fun hb12 => ?_) (fun hb12 => ?_)
            ·have hp12 := hb12
             (try simp only [bn] at hp12)
             have hi1 : i < (prT (runM xs).1 x0).nodes.length := by omega
             refine cd_skip ?_
             refine px_then ?_
             refine cd_seq ?_
             refine cd_block ?_
             refine cd_sr ?_
             refine oq (op_move (v := .int _ _) rfl) ?_
             refine oq (op_index i sB_37 rfl rfl rfl (rds_row 8 rfl rfl) rfl (by omega)) ?_
             refine oq (op_ldaw (L := rootC _) ag_24 (rds_row 8 rfl rfl) rfl (by omega) rfl (rootC_ta _)) ?_
             refine oi (os_alloc (cs := (rootC Root.zero).toArray) zB_24 (by kernel_rfl)) ?_; rintro _ _ ⟨bx3, rfl, rfl⟩
             refine oq (op_assign (v := .int _ _) rfl) ?_
             refine oN (os_storera _ ag_24 rfl rfl (Free.zero _)) ?_; rintro _ _ ⟨rfl, rfl⟩
             refine ol_nil_then ?_
             refine cd_sr ?_
             refine oq (op_move (v := .pointer _) rfl) ?_
             refine oq (op_move (v := .int _ _) rfl) ?_
             refine ol_pull1 ?_
             refine oi (os_call cb_24 rfl (fun w s => Node_calls _ _ _  s )) ?_; rintro _ _ ⟨rfl, rfl⟩; rw [TreeS.node_at]
             refine oq (op_move (v := .tuple _) rfl) ?_
             refine oq (op_extract (v := .agg _) rfl rfl) ?_
             refine oq (op_extract (v := .bool _) rfl rfl) ?_
             refine oi (os_alloc (cs := (nodeC Node.zero).toArray) zB_51 (by kernel_rfl)) ?_; rintro _ _ ⟨bx4, rfl, rfl⟩
             refine oN (os_storew (nodeC _) ag_51 rfl rfl (nodeC_len _) (nodeC_one _) (by simp [nodeC_len]) (Free.zero _)) ?_; rintro _ _ ⟨rfl, rfl⟩
             refine oq (op_assign (v := .bool _) rfl) ?_
             refine ol_nil_then ?_
             refine cd_pull1 ?_
             refine cd_pull3 ?_
             refine cd_seq ?_
             refine cd_drawe (M := [_, _]) mx [25, 31, 34] ?_
             refine e_q 0 rfl (wn_none rfl) (op_move (v := .bool _) rfl) ?_
             refine e_q 1 rfl (wn_none rfl) (op_not rfl) ?_
             refine e_q 2 rfl (wn_none rfl) (op_move (v := .bool _) rfl) ?_
             refine et_split 188 rfl (fun hb13 => ?_) (fun hb13 => ?_)
             ·have hp13 := hb13
              (try simp only [bn] at hp13)
              exact absurd hb13 (by rw [List.getElem?_eq_getElem hi1]; simp)
             ·have hp13 := hb13
              (try simp only [bn] at hp13)
              refine e_q 3 rfl (wn_some rfl rfl rfl hb13 rfl) (op_field fld_51_1 rfl) ?_
              refine e_q 4 rfl (wn_some rfl rfl rfl hb13 rfl) (op_ld 0 sc_3 rfl rfl (show (nodeC _).toArray[32]? = some (.int .i64 (slA (prT (runM xs).1 x0).nodes i)) from nodeC_a32 _)) ?_
              refine e_q 5 rfl (wn_some rfl rfl rfl hb13 rfl) (op_move (v := .pointer _) rfl) ?_
              refine e_q 6 rfl (wn_some rfl rfl rfl hb13 rfl) (op_nilck rfl) ?_
              refine e_q 7 rfl (wn_some rfl rfl rfl hb13 rfl) (op_field fld_47_0 rfl) ?_
              refine e_q 8 rfl (wn_some rfl rfl rfl hb13 rfl) (op_ld 5 sc_45 rfl rfl rfl) ?_
              refine e_q 9 rfl (wn_some rfl rfl rfl hb13 rfl) (op_nilck rfl) ?_
              refine e_q 10 rfl (wn_some rfl rfl rfl hb13 rfl) (op_field fld_44_1 rfl) ?_
              refine e_q 11 rfl (wn_some rfl rfl rfl hb13 rfl) (op_ld 7 sc_42 rfl rfl rfl) ?_
              refine e_q 12 rfl (wn_some rfl rfl rfl hb13 rfl) (op_move (v := .int _ _) rfl) ?_
              refine e_q 13 rfl (wn_some rfl rfl rfl hb13 rfl) (op_index i sB_42 rfl rfl rfl (rds_row 9 rfl rfl) rfl (by omega)) ?_
              refine e_q 14 rfl (wn_some rfl rfl rfl hb13 rfl) (op_ldw sc_3 (rds_row 9 rfl rfl) rfl (by omega) rfl) ?_
              refine e_q 15 rfl (wn_some rfl rfl rfl hb13 rfl) (op_ne rfl rfl) ?_
              refine e_q 16 rfl (wn_none rfl) (op_pick_f (v := .bool _) rfl hb13 rfl) ?_
              refine e_q 17 rfl (wn_none rfl) (op_move (v := .bool _) rfl) ?_
              refine et_split 203 rfl (fun hb14 => ?_) (fun hb14 => ?_)
              ·have hp14 := hb14
               (try simp only [bn] at hp14)
               exact absurd hb14 (by rw [hSr]; simp)
              ·have hp14 := hb14
               (try simp only [bn] at hp14)
               refine e_q 18 rfl (wn_some rfl rfl rfl hb14 rfl) (op_field fld_51_2 rfl) ?_
               refine e_q 19 rfl (wn_some rfl rfl rfl hb14 rfl) (op_ld 0 sc_3 rfl rfl (show (nodeC _).toArray[33]? = some (.int .i64 (prA (prT (runM xs).1 x0).nodes i)) from nodeC_a33 _)) ?_
               refine e_q 20 rfl (wn_some rfl rfl rfl hb14 rfl) (op_move (v := .pointer _) rfl) ?_
               refine e_q 21 rfl (wn_some rfl rfl rfl hb14 rfl) (op_nilck rfl) ?_
               refine e_q 22 rfl (wn_some rfl rfl rfl hb14 rfl) (op_field fld_47_0 rfl) ?_
               refine e_q 23 rfl (wn_some rfl rfl rfl hb14 rfl) (op_ld 5 sc_45 rfl rfl rfl) ?_
               refine e_q 24 rfl (wn_some rfl rfl rfl hb14 rfl) (op_move (v := .int _ _) rfl) ?_
               refine et_1 (i := 25) (by kernel_rfl) ?_
               refine ei_i rfl rfl (wn_some rfl rfl rfl hb14 rfl) (os_back (os_pull12 (os_pull12 (os_pull12 (os_pull12 (os_call cb_25 rfl (fun w s => RUpO_calls _ _ _ _ _ _ _ _ _ _ _ _  s (by assumption) (by assumption))))))) (fun _ s => ((((s.push 12).push 12).push 12).push 12))) rfl ?_; rintro _ _ ⟨rfl, rfl⟩; refine ⟨[_, _], rfl, ?_⟩
               refine e_q 26 rfl (wn_some rfl rfl rfl hb14 rfl) (op_ne rfl rfl) ?_
               refine e_q 27 rfl (wn_none rfl) (op_pick_f (v := .bool _) rfl hb14 rfl) ?_
               refine e_q 28 rfl (wn_none rfl) (op_move (v := .bool _) rfl) ?_
               refine et_split 214 rfl (fun hb15 => ?_) (fun hb15 => ?_)
               ·have hp15 := hb15
                (try simp only [bn] at hp15)
                exact absurd hb15 (by rw [up_pr]; simp)
               ·have hp15 := hb15
                (try simp only [bn] at hp15)
                refine e_q 29 rfl (wn_some rfl rfl rfl hb15 rfl) (op_move (v := .pointer _) rfl) ?_
                refine e_q 30 rfl (wn_some rfl rfl rfl hb15 rfl) (op_lda (L := rootC _) 1 ag_24 rfl rfl (rootC_take' _) (by simp [rootC_len])) ?_
                refine e_q 32 rfl (wn_some rfl rfl rfl hb15 rfl) (op_move (v := .pointer _) rfl) ?_
                refine e_q 33 rfl (wn_some rfl rfl rfl hb15 rfl) (op_lda (L := rootC _) 1 ag_24 rfl rfl (rootC_take' _) (by simp [rootC_len])) ?_
                refine et_1 (i := 31) (by kernel_rfl) ?_
                refine ei_i rfl rfl (wn_some rfl rfl rfl hb15 rfl) (os_pull1 (os_call cb_26 rfl (fun w s => Own_calls _ _ _ _ _  s ))) rfl ?_; rintro _ _ ⟨rfl, rfl⟩; refine ⟨[_, _], rfl, ?_⟩
                refine et_1 (i := 34) (by kernel_rfl) ?_
                refine ei_i rfl rfl (wn_some rfl rfl rfl hb15 rfl) (os_back (os_pull8 (os_pull8 (os_pull12 (os_pull12 (os_pull12 (os_pull12 (os_call cb_27 rfl (fun w s => ROwnOfO_calls _ _ _ _ _ _ _ _ _ _ _ _ _ _ _ _  s (by assumption) (by assumption) (by first | assumption | omega))))))))) (fun _ s => ((((((s.push 12).push 12).push 12).push 12).push 8).push 8))) rfl ?_; rintro _ _ ⟨rfl, rfl⟩; refine ⟨[_, _], rfl, ?_⟩
                refine e_q 35 rfl (wn_some rfl rfl rfl hb15 rfl) (op_ne rfl rfl) ?_
                refine e_q 36 rfl (wn_none rfl) (op_pick_f (v := .bool _) rfl hb15 rfl) ?_
                refine et_nil_then (by kernel_rfl) ?_
                refine cd_cond rfl (fun hb16 => ?_) (fun hb16 => ?_)
                ·have hp16 := hb16
                 (try simp only [bn] at hp16)
                 exact absurd hb16 (by simp)
                ·have hp16 := hb16
                 (try simp only [bn] at hp16)
                 refine cd_skip ?_
                 refine px_blockN ?_
                 refine px_then ?_
                 refine cd_region ?_
                 refine oq (op_add rfl rfl (by omega) (by omega)) ?_
                 refine oq (op_move (v := .int _ _) rfl) ?_
                 refine ol_nil ?_
                 refine px_loop2 (i + 1) (by omega) (by (try dsimp only); omega) ⟨congrArg (Value.int .i64) (by simp), trivial⟩ ?_ (fun _ s => ((s.del 3).del 2))
                 repeat (first | exact kept_over | refine kept_upd rfl ?_ | refine kept_overS (by decide) ?_)
            ·have hp12 := hb12
             (try simp only [bn] at hp12)
             refine cd_exit ?_
             refine px_thenE ?_
             refine px_thenE ?_
             refine px_blockE ?_
             refine px_blockN ?_
             refine px_then ?_
             refine cd_region ?_
             refine oq (op_add rfl rfl (by omega) (by omega)) ?_
             refine oq (op_move (v := .int _ _) rfl) ?_
             refine ol_nil ?_
             refine px_pull17 ?_
             refine px_pull13 ?_
             refine px_pull13 ?_
             refine px_pull15 ?_
             refine px_pull15 ?_
             refine px_pull17 ?_
             refine px_loop2 (j + 1) (by omega) (by (try dsimp only); omega) ⟨congrArg (Value.int .i64) (by simp), trivial⟩ ?_ (fun _ s => ((((((((((((s.del 17).del 16).del 15).del 14).del 13).del 12).del 11).del 10).del 9).del 8).del 7).del 6))
             repeat (first | exact kept_over | refine kept_upd rfl ?_ | refine kept_overS (by decide) ?_)
    ·have hp3 := hb3
     (try simp only [bn] at hp3)
     refine cd_exit ?_
     refine px_thenE ?_
     refine px_thenE ?_
     refine px_blockE ?_
     refine px_then ?_
     refine cd_pull3 ?_
     refine cd_rtreeOpen ?_; intro a1 c1 a2 c2 a3 c3 R Sl Pa hwR hR
     refine cd_pull7 ?_
     refine cd_rwOpen ?_; intro a4 c4
     have hRl : R.length = (runM xs).1.nodes.length := by rw [hR.r, List.length_map]
     have hSl : Sl.length = (runM xs).1.nodes.length := by rw [hR.s, List.length_map]
     have hRe : decide ((runM xs).1.roots = R) = true := decide_eq_true hR.r.symm
     have hSr : ∀ q (h : q < Sl.length), Sl[q] = slA (runM xs).1.nodes q := fun q h => by simp only [hR.s, List.getElem_map]; exact (slA_get (by omega)).symm
     refine cd_pull8 ?_
     refine cd_pull8 ?_
     refine cd_seq ?_
     refine cd_drawe (M := [_, _]) mx [1, 9, 12, 14] ?_
     refine e_q 0 rfl (wn_none rfl) (op_move (v := .pointer _) rfl) ?_
     refine e_q 2 rfl (wn_none rfl) (op_move (v := .pointer _) rfl) ?_
     refine e_q 3 rfl (wn_none rfl) (op_nilck rfl) ?_
     refine e_q 4 rfl (wn_none rfl) (op_field fld_47_0 rfl) ?_
     refine e_q 5 rfl (wn_none rfl) (op_ld 0 sc_45 rfl rfl rfl) ?_
     refine e_q 6 rfl (wn_none rfl) (op_nilck rfl) ?_
     refine e_q 7 rfl (wn_none rfl) (op_field fld_44_0 rfl) ?_
     refine e_q 8 rfl (wn_none rfl) (op_ld 2 sc_37 rfl rfl rfl) ?_
     refine et_1 (i := 1) (by kernel_rfl) ?_
     refine ei_i rfl rfl (wn_none rfl) (os_call cb_20 rfl (fun w s => Roots_calls _ _  s )) rfl ?_; rintro _ _ ⟨ao22, ac22, rfl, rfl⟩; refine ⟨[_, _, _], rfl, ?_⟩
     refine et_1 (i := 9) (by kernel_rfl) ?_
     refine ei_i rfl rfl (wn_none rfl) (os_call cb_19 rfl (fun w s => Same_calls _ _ _ _ _ _  s (rds_row 0 rfl rfl) (rds_row 6 rfl rfl) (by rw [roots_len]; omega))) rfl ?_; rintro _ l ⟨rfl, rfl⟩; rw [hRe]; refine ⟨[_, _, _], rfl, ?_⟩
     refine e_q 10 rfl (wn_none rfl) (op_move (v := .bool _) rfl) ?_
     refine et_split 235 rfl (fun hb17 => ?_) (fun hb17 => ?_)
     ·have hp17 := hb17
      (try simp only [bn] at hp17)
      refine e_q 11 rfl (wn_some rfl rfl rfl hb17 rfl) (op_move (v := .pointer _) rfl) ?_
      refine e_q 13 rfl (wn_some rfl rfl rfl hb17 rfl) (op_move (v := .pointer _) rfl) ?_
      refine et_1 (i := 12) (by kernel_rfl) ?_
      refine ei_i rfl rfl (wn_some rfl rfl rfl hb17 rfl) (os_pull2 (os_pull2 (os_call cb_22 rfl (fun w s => Head_calls _ _ _ _  s (by omega) (by omega))))) rfl ?_; rintro _ _ ⟨rfl, rfl⟩; refine ⟨[_, _, _], rfl, ?_⟩
      refine et_1 (i := 14) (by kernel_rfl) ?_
      refine ei_i rfl rfl (wn_some rfl rfl rfl hb17 rfl) (os_back (os_pull4 (os_pull4 (os_pull8 (os_pull8 (os_pull8 (os_pull8 (os_call cb_23 rfl (fun w s => RHeadWO_calls _ _ _ _ _ _ _ _ _ _ _ _ _ _ _  s (by assumption) (by assumption) (by first | assumption | omega) (by assumption) (by first | assumption | omega))))))))) (fun _ s => (((((((((((s.pull 10).pull 10).pull 5).pull 5).pull 5).pull 5).pull 7).pull 7).pull 10).pull 10).pull 10))) rfl ?_; rintro _ _ ⟨rfl, rfl⟩; refine ⟨[_, _, _], rfl, ?_⟩
      refine e_q 15 rfl (wn_some rfl rfl rfl hb17 rfl) (op_eqroot _ _ rB_24 rfl rfl) ?_
      refine e_q 16 rfl (wn_none rfl) (op_pick_t (v := .bool _) rfl hb17 rfl) ?_
      refine e_q 17 rfl (wn_none rfl) (op_assign (v := .bool _) rfl) ?_
      refine et_nil_then (by kernel_rfl) ?_
      refine cd_ret ?_
      exact px_ret1 rfl (v := .bool _) rfl (fun _ s => (((((((((((s.del 10).del 9).del 8).del 7).del 6).del 5).del 4).del 3).del 2).del 1).del 0)) ⟨congrArg Value.bool (by first | rfl | simp), rfl⟩
     ·have hp17 := hb17
      (try simp only [bn] at hp17)
      exact absurd hb17 (by simp)
end Go.SL

import Derived.Test.YtdeemlgkckpedaaPrn2
import Derived.Test.YtdeemlgkckpedaaWeiR3
set_option linter.unusedVariables false
set_option linter.unusedSimpArgs false
namespace Go.SL
open Go.Proofs

theorem opens_PBlk {H : Type} {enc : TypeId × Value → H} {W : World} : Opens enc Try.prog W 93 (fun cs => ∃ a : PBlk, cs = encPBlk.cells a ∧ (I64 a.root ∧ I64 a.parent ∧ I64 a.slot ∧ I64 a.n)) := fun fuel cs x h => by
 obtain ⟨hl, hf⟩ := opens_field Try.underlying93 h
 have hc : Try.prog.cellsOf 93 = 4 := by kernel_rfl
 rw [hc] at hl
 obtain ⟨n0, h0, w0⟩ := hf 0 0 3 1 _ rfl (by kernel_rfl) (opens_int Try.underlying3)
 obtain ⟨n1, h1, w1⟩ := hf 1 1 3 1 _ rfl (by kernel_rfl) (opens_int Try.underlying3)
 obtain ⟨n2, h2, w2⟩ := hf 2 2 3 1 _ rfl (by kernel_rfl) (opens_int Try.underlying3)
 obtain ⟨n3, h3, w3⟩ := hf 3 3 3 1 _ rfl (by kernel_rfl) (opens_int Try.underlying3)
 refine ⟨⟨n0, n1, n2, n3⟩, ?_, wf_i64 w0, wf_i64 w1, wf_i64 w2, wf_i64 w3⟩
 have e0 : cs.drop 0 = (cs.drop 0).take 1 ++ cs.drop 1 := seg cs 0 1
 have e1 : cs.drop 1 = (cs.drop 1).take 1 ++ cs.drop 2 := seg cs 1 1
 have e2 : cs.drop 2 = (cs.drop 2).take 1 ++ cs.drop 3 := seg cs 2 1
 have e3 : cs.drop 3 = (cs.drop 3).take 1 ++ cs.drop 4 := seg cs 3 1
 have eN : cs.drop 4 = [] := List.drop_eq_nil_of_le (by omega)
 have e : cs.drop 0 = [.int .i64 n0] ++ ([.int .i64 n1] ++ ([.int .i64 n2] ++ ([.int .i64 n3] ++ ([])))) := by rw [e0, h0, e1, h1, e2, h2, e3, h3, eN]
 rw [List.drop_zero] at e
 rw [e]
 show _ = pBlkC _
 unfold pBlkC
 simp

set_option maxRecDepth 100000 in
set_option maxHeartbeats 1000000 in
theorem pMade_calls {w0 w : World} {l : List HProp} (lo : Option Addr) (lc : Nat) (xs : List PBlk) (hs : Sat w0 w (l)) (hr : Rds w0 l encPBlk lo xs) :
  Calls Try.prog 14 #[.slice lo xs.length lc] w (Ret w0 fun v l' => ((60 < xs.length ∨ ∃ b ∈ xs, inM b = false) ∧ v = .tuple #[.pointer none, .pointer none, .pointer none, .bool false] ∧ l' = l) ∨ (xs.length ≤ 60 ∧ ∃ pt pw pr pm, v = .tuple #[.pointer (some ⟨pt, 0, none⟩), .pointer (some ⟨pw, 0, none⟩), .pointer (some ⟨pm, 0, none⟩), .bool true] ∧ l' = TreeObj pt (runM xs).1 :: WObj pw pt (runM xs).1.nodes (ownM xs) :: RTreeObj pr (runM xs).1 :: RWObj pm pr (ownM xs) :: l)) := by
 refine calls_enter Try.func14 rfl rfl rfl hs ?_
 refine cd_sr ?_
 refine oq (op_assign (v := .pointer _) rfl) ?_
 refine oq (op_assign (v := .pointer _) rfl) ?_
 refine oq (op_assign (v := .pointer _) rfl) ?_
 refine oq (op_assign (v := .bool _) rfl) ?_
 refine ol_nil_then ?_
 refine cd_seq ?_
 refine cd_sr ?_
 refine oq (op_move (v := .slice _ _ _) rfl) ?_
 refine oq (op_len_slice Try.underlying22 rfl) ?_
 refine oq (op_gt rfl rfl) ?_
 refine ol_nil_then ?_
 refine cd_cond rfl (fun hb1 => ?_) (fun hb1 => ?_)
 ·have hp1 := hb1
  (try simp only [bn] at hp1)
  refine cd_sr ?_
  refine oq (op_assign (v := .pointer _) rfl) ?_
  refine oq (op_assign (v := .pointer _) rfl) ?_
  refine oq (op_assign (v := .pointer _) rfl) ?_
  refine oq (op_assign (v := .bool _) rfl) ?_
  refine ol_nil_then ?_
  refine cd_ret ?_
  refine px_thenR ?_
  exact px_ret4 rfl (v1 := .pointer _) (v2 := .pointer _) (v3 := .pointer _) (v4 := .bool _) rfl rfl rfl rfl (fun _ s => s) (.inl ⟨.inl (by omega), rfl, rfl⟩)
 ·have hp1 := hb1
  (try simp only [bn] at hp1)
  have hxl : xs.length ≤ 60 := by omega
  refine cd_skip ?_
  refine px_then ?_
  refine cd_sr ?_
  refine oi (os_call cb_17 rfl (fun w s => Name_calls (n := 0)  s )) ?_; rintro _ l ⟨rfl, rfl⟩
  refine oi (os_call cb_45 rfl (fun w s => TNew_calls _ _ _ s)) ?_; rintro _ l2 (⟨rfl, hl2, hbad1⟩ | ⟨p1, rfl, hok1, rfl⟩)
  ·exact absurd hbad1 (by omega)
  ·have hob1 := hok1
   refine oq (op_move (v := .tuple _) rfl) ?_
   refine oq (op_extract (v := .pointer _) rfl rfl) ?_
   refine oq (op_extract (v := .int _ _) rfl rfl) ?_
   refine oq (op_assign (v := .pointer _) rfl) ?_
   refine oq (op_assign (v := .int _ _) rfl) ?_
   refine ol_nil_then ?_
   refine cd_sr ?_
   refine oi (os_call cb_17 rfl (fun w s => Name_calls (n := 0)  s )) ?_; rintro _ l ⟨rfl, rfl⟩
   refine oi (os_call cb_46 rfl (fun w s => RTNew_calls _ _ _ s)) ?_; rintro _ l2 (⟨rfl, hl2, hbad2⟩ | ⟨p2, rfl, hok2, rfl⟩)
   ·exact absurd hbad2 (by omega)
   ·have hob2 := hok2
    refine oq (op_move (v := .tuple _) rfl) ?_
    refine oq (op_extract (v := .pointer _) rfl rfl) ?_
    refine oq (op_extract (v := .bool _) rfl rfl) ?_
    refine oq (op_assign (v := .pointer _) rfl) ?_
    refine oq (op_assign (v := .bool _) rfl) ?_
    refine ol_nil_then ?_
    refine cd_sr ?_
    refine oq (op_assign (v := .slice _ _ _) rfl) ?_
    refine ol_nil_then ?_
    refine cd_sr ?_
    refine oq (op_assign (v := .slice _ _ _) rfl) ?_
    refine ol_nil_then ?_
    refine cd_seq ?_
    refine cd_sr ?_
    refine oq (op_move (v := .slice _ _ _) rfl) ?_
    refine oq (op_len_slice Try.underlying22 rfl) ?_
    refine oq (op_move (v := .int _ _) rfl) ?_
    refine ol_nil_then ?_
    refine cd_block ?_
    refine cd_imp (fun _ s => Sat.rowNil (E := encDelta) (e := 103) s) ?_
    refine cd_imp (fun _ s => Sat.rowNil (E := encDelta) (e := 102) s) ?_
    refine cd_pull2 ?_
    refine cd_pull3 ?_
    refine cd_pull3 ?_
    refine cd_pull3 ?_
    refine cd_loop2 (α := Nat × Option Addr × Nat × Option Addr × Nat) [(2, 5), (10, 11), (13, 13), (31, 87)] (fun x => [(10, .slice x.2.1 (runM (xs.take x.1)).2.length x.2.2.1), (11, .slice x.2.2.2.1 (runM (xs.take x.1)).2.length x.2.2.2.2), (31, .int .i64 (x.1 : Int))]) (fun x => Row 102 encDelta (.slice x.2.1 (runM (xs.take x.1)).2.length x.2.2.1) (runM (xs.take x.1)).2 :: Row 103 encDelta (.slice x.2.2.2.1 (runM (xs.take x.1)).2.length x.2.2.2.2) (runM (xs.take x.1)).2 :: TreeObj p1 (runM (xs.take x.1)).1 :: RTreeObj p2 (runM (xs.take x.1)).1 :: _) (fun x => x.1 ≤ xs.length) (fun x => xs.length - x.1) (0, none, 0, none, 0) (Nat.zero_le _) ⟨rfl, rfl, rfl, trivial⟩ (fun _ s => s) ?_
    rintro ⟨i, b1, d1, b2, d2⟩ hi f; (try dsimp only at hi ⊢)
    have hO := OKM.take xs i hi
    refine cd_sr ?_
    refine oq (op_lt rfl rfl) ?_
    refine ol_nil_then ?_
    refine cd_seq ?_
    refine cd_cond rfl (fun hb2 => ?_) (fun hb2 => ?_)
    ·have hp2 := hb2
     (try simp only [bn] at hp2)
     have hi1 : i < xs.length := by omega
     refine cd_skip ?_
     refine px_then ?_
     refine cd_seq ?_
     refine cd_block ?_
     refine cd_sr ?_
     refine oq (op_index i sB_22 rfl rfl rfl ((((hr.cons _).cons _).cons _).cons _) rfl (by omega)) ?_
     refine oq (op_ldaw (L := pBlkC _) ag_93 ((((hr.cons _).cons _).cons _).cons _) rfl (by omega) rfl (pBlkC_ta _)) ?_
     refine oi (os_alloc (cs := (pBlkC PBlk.zero).toArray) zB_93 (by kernel_rfl)) ?_; rintro _ _ ⟨bx1, rfl, rfl⟩
     refine oN (os_storew (pBlkC _) ag_93 rfl rfl (pBlkC_len _) (pBlkC_one _) (by simp [pBlkC_len]) (Free.zero _)) ?_; rintro _ _ ⟨rfl, rfl⟩
     refine ol_nil_then ?_
     refine cd_pull3 ?_
     refine cd_seq ?_
     refine cd_draw (M := [_]) mx [3, 6, 9] (by kernel_rfl) ?_
     refine rg_q (wn_none rfl) (op_move (v := .pointer _) rfl) rfl rfl ?_
     refine rg_q (wn_none rfl) (op_field fld_93_0 rfl) rfl rfl ?_
     refine rg_q (wn_none rfl) (op_ld 0 sc_3 rfl rfl (pBlkC_a0 _)) rfl rfl ?_
     refine rg_i (wn_none rfl) (os_call cb_17 rfl (fun w s => Name_calls _  s )) rfl rfl ?_; rintro _ l ⟨rfl, rfl⟩; refine ⟨[_], rfl, ?_⟩
     refine rg_q (wn_none rfl) (op_field fld_93_1 rfl) rfl rfl ?_
     refine rg_q (wn_none rfl) (op_ld 0 sc_3 rfl rfl (pBlkC_a1 _)) rfl rfl ?_
     refine rg_i (wn_none rfl) (os_call cb_17 rfl (fun w s => Name_calls _  s )) rfl rfl ?_; rintro _ l ⟨rfl, rfl⟩; refine ⟨[_], rfl, ?_⟩
     refine rg_q (wn_none rfl) (op_field fld_93_2 rfl) rfl rfl ?_
     refine rg_q (wn_none rfl) (op_ld 0 sc_3 rfl rfl (pBlkC_a2 _)) rfl rfl ?_
     refine rg_i (wn_none rfl) (os_call cb_47 rfl (fun w s => Add_calls _ _ _ _ _  s )) rfl rfl ?_; rintro _ _ ⟨rfl, rfl⟩; refine ⟨[_], rfl, ?_⟩
     refine rg_nil_then1 ?_
     refine cd_pull4 ?_
     refine cd_seq ?_
     refine cd_draw (M := [_]) mx [3, 6, 9] (by kernel_rfl) ?_
     refine rg_q (wn_none rfl) (op_move (v := .pointer _) rfl) rfl rfl ?_
     refine rg_q (wn_none rfl) (op_field fld_93_0 rfl) rfl rfl ?_
     refine rg_q (wn_none rfl) (op_ld 1 sc_3 rfl rfl (pBlkC_a0 _)) rfl rfl ?_
     refine rg_i (wn_none rfl) (os_call cb_17 rfl (fun w s => Name_calls _  s )) rfl rfl ?_; rintro _ l ⟨rfl, rfl⟩; refine ⟨[_], rfl, ?_⟩
     refine rg_q (wn_none rfl) (op_field fld_93_1 rfl) rfl rfl ?_
     refine rg_q (wn_none rfl) (op_ld 1 sc_3 rfl rfl (pBlkC_a1 _)) rfl rfl ?_
     refine rg_i (wn_none rfl) (os_call cb_17 rfl (fun w s => Name_calls _  s )) rfl rfl ?_; rintro _ l ⟨rfl, rfl⟩; refine ⟨[_], rfl, ?_⟩
     refine rg_q (wn_none rfl) (op_field fld_93_2 rfl) rfl rfl ?_
     refine rg_q (wn_none rfl) (op_ld 1 sc_3 rfl rfl (pBlkC_a2 _)) rfl rfl ?_
     refine rg_i (wn_none rfl) (os_call cb_48 rfl (fun w s => RAdd_calls _ _ _ _ _  s )) rfl rfl ?_; rintro _ _ ⟨rfl, rfl⟩; refine ⟨[_], rfl, ?_⟩
     refine rg_nil_then1 ?_
     refine cd_seq ?_
     refine cd_sr ?_
     refine oq (op_field fld_93_3 rfl) ?_
     refine oq (op_ld 2 sc_3 rfl rfl (pBlkC_a3 _)) ?_
     refine oq (op_lt rfl rfl) ?_
     refine oq (op_move (v := .bool _) rfl) ?_
     refine ol_split 58 rfl (fun hb3 => ?_) (fun hb3 => ?_)
     ·have hp3 := hb3
      (try simp only [bn] at hp3)
      refine ol_skip (wn_some rfl rfl rfl hb3 rfl) rfl ?_
      refine ol_skip (wn_some rfl rfl rfl hb3 rfl) rfl ?_
      refine ol_skip (wn_some rfl rfl rfl hb3 rfl) rfl ?_
      refine oq (op_pick_t (v := .bool _) rfl hb3 rfl) ?_
      refine ol_nil_then ?_
      refine cd_cond_t rfl rfl ?_
      refine cd_sr ?_
      refine oq (op_assign (v := .pointer _) rfl) ?_
      refine oq (op_assign (v := .pointer _) rfl) ?_
      refine oq (op_assign (v := .pointer _) rfl) ?_
      refine oq (op_assign (v := .bool _) rfl) ?_
      refine ol_nil_then ?_
      refine cd_ret ?_
      refine px_thenR ?_
      refine px_blockR ?_
      refine px_thenR ?_
      refine px_thenR ?_
      refine px_blockR ?_
      refine px_thenR ?_
      exact px_ret4 rfl (v1 := .pointer _) (v2 := .pointer _) (v3 := .pointer _) (v4 := .bool _) rfl rfl rfl rfl (fun _ s => (((((s.del 4).del 3).del 2).del 1).del 0)) (.inl ⟨.inr ⟨xs[i], List.getElem_mem _, by unfold inM; simp; omega⟩, rfl, rfl⟩)
     ·have hp3 := hb3
      (try simp only [bn] at hp3)
      refine ol_q (wn_some rfl rfl rfl hb3 rfl) (op_field fld_93_3 rfl) rfl ?_
      refine ol_q (wn_some rfl rfl rfl hb3 rfl) (op_ld 2 sc_3 rfl rfl (pBlkC_a3 _)) rfl ?_
      refine ol_q (wn_some rfl rfl rfl hb3 rfl) (op_gt rfl rfl) rfl ?_
      refine oq (op_pick_f (v := .bool _) rfl hb3 rfl) ?_
      refine ol_nil_then ?_
      refine cd_cond rfl (fun hb4 => ?_) (fun hb4 => ?_)
      ·have hp4 := hb4
       (try simp only [bn] at hp4)
       refine cd_sr ?_
       refine oq (op_assign (v := .pointer _) rfl) ?_
       refine oq (op_assign (v := .pointer _) rfl) ?_
       refine oq (op_assign (v := .pointer _) rfl) ?_
       refine oq (op_assign (v := .bool _) rfl) ?_
       refine ol_nil_then ?_
       refine cd_ret ?_
       refine px_thenR ?_
       refine px_blockR ?_
       refine px_thenR ?_
       refine px_thenR ?_
       refine px_blockR ?_
       refine px_thenR ?_
       exact px_ret4 rfl (v1 := .pointer _) (v2 := .pointer _) (v3 := .pointer _) (v4 := .bool _) rfl rfl rfl rfl (fun _ s => (((((s.del 4).del 3).del 2).del 1).del 0)) (.inl ⟨.inr ⟨xs[i], List.getElem_mem _, by unfold inM; simp; omega⟩, rfl, rfl⟩)
      ·have hp4 := hb4
       (try simp only [bn] at hp4)
       refine cd_skip ?_
       refine px_then ?_
       refine cd_sr ?_
       refine oq (op_move (v := .pointer _) rfl) ?_
       refine oq (op_field fld_93_0 rfl) ?_
       refine oq (op_ld 2 sc_3 rfl rfl (pBlkC_a0 _)) ?_
       refine oi (os_call cb_17 rfl (fun w s => Name_calls _  s )) ?_; rintro _ l ⟨rfl, rfl⟩
       refine oi (os_call cb_49 rfl (fun w s => RPlace_calls _ _ _  s )) ?_; rintro _ _ ⟨rfl, rfl⟩
       refine oq (op_ge rfl rfl) ?_
       refine ol_nil_then ?_
       refine cd_cond rfl (fun hb5 => ?_) (fun hb5 => ?_)
       ·have hp5 := hb5
        (try simp only [bn] at hp5)
        refine cd_pull3 ?_
        refine cd_seq ?_
        refine cd_drawe (M := [_]) mx [3, 7, 8] ?_
        refine e_q 0 rfl (wn_none rfl) (op_move (v := .slice _ _ _) rfl) ?_
        refine e_q 1 rfl (wn_none rfl) (op_field fld_93_0 rfl) ?_
        refine e_q 2 rfl (wn_none rfl) (op_ld 2 sc_3 rfl rfl (pBlkC_a0 _)) ?_
        refine e_q 4 rfl (wn_none rfl) (op_field fld_93_3 rfl) ?_
        refine e_q 5 rfl (wn_none rfl) (op_ld 2 sc_3 rfl rfl (pBlkC_a3 _)) ?_
        refine et_1 (i := 3) (by kernel_rfl) ?_
        refine ei_i rfl rfl (wn_none rfl) (os_call cb_17 rfl (fun w s => Name_calls _  s )) rfl ?_; rintro _ l ⟨rfl, rfl⟩; refine ⟨[_], rfl, ?_⟩
        refine e_q 6 rfl (wn_none rfl) (op_build (L := deltaC _) (vs := [(0, .agg (rootC _).toArray), (1, .int _ _)]) bB_102 rfl ⟨⟨by simp [Value.cells, rootC_len], by rw [deltaC_len]; rfl⟩, ⟨rfl, by rw [deltaC_len]; rfl⟩, trivial⟩ ((deltaC_b0 _ _ _).trans ((deltaC_b1 _ _ _).trans rfl))) ?_
        refine et_1 (i := 7) (by kernel_rfl) ?_
        refine ei_i rfl rfl (wn_none rfl) (os_bslice (E := encDelta) [_] (ys := [_]) sB_97 zv_102 rfl rfl rfl rfl (by decide)) rfl ?_; rintro _ _ ⟨ao1, rfl, rfl⟩; refine ⟨[_, _], rfl, ?_⟩
        refine et_1 (i := 8) (by kernel_rfl) ?_
        refine ei_i rfl rfl (wn_none rfl) (os_pull1 (os_append (E := encDelta) rfl sB_97 zv_102 rfl rfl rfl (fun w s => (rds_row 1 rfl rfl) [] w s) rfl (by simp; have := hO.2; omega) (by unfold maxLen; simp; have := hO.2; omega))) rfl ?_; rintro _ _ ⟨ao2, ac2, rfl, rfl⟩; refine ⟨[_, _], rfl, ?_⟩
        refine e_q 9 rfl (wn_none rfl) (op_assign (v := .slice _ _ _) rfl) ?_
        refine et_nil_then (by kernel_rfl) ?_
        refine cd_pull5 ?_
        refine cd_drawe (M := [_]) mx [3, 7, 8] ?_
        refine e_q 0 rfl (wn_none rfl) (op_move (v := .slice _ _ _) rfl) ?_
        refine e_q 1 rfl (wn_none rfl) (op_field fld_93_0 rfl) ?_
        refine e_q 2 rfl (wn_none rfl) (op_ld 4 sc_3 rfl rfl (pBlkC_a0 _)) ?_
        refine e_q 4 rfl (wn_none rfl) (op_field fld_93_3 rfl) ?_
        refine e_q 5 rfl (wn_none rfl) (op_ld 4 sc_3 rfl rfl (pBlkC_a3 _)) ?_
        refine et_1 (i := 3) (by kernel_rfl) ?_
        refine ei_i rfl rfl (wn_none rfl) (os_call cb_17 rfl (fun w s => Name_calls _  s )) rfl ?_; rintro _ l ⟨rfl, rfl⟩; refine ⟨[_], rfl, ?_⟩
        refine e_q 6 rfl (wn_none rfl) (op_build (L := deltaC _) (vs := [(0, .agg (rootC _).toArray), (1, .int _ _)]) bB_103 rfl ⟨⟨by simp [Value.cells, rootC_len], by rw [deltaC_len]; rfl⟩, ⟨rfl, by rw [deltaC_len]; rfl⟩, trivial⟩ ((deltaC_b0 _ _ _).trans ((deltaC_b1 _ _ _).trans rfl))) ?_
        refine et_1 (i := 7) (by kernel_rfl) ?_
        refine ei_i rfl rfl (wn_none rfl) (os_bslice (E := encDelta) [_] (ys := [_]) sB_98 zv_103 rfl rfl rfl rfl (by decide)) rfl ?_; rintro _ _ ⟨ao3, rfl, rfl⟩; refine ⟨[_, _], rfl, ?_⟩
        refine et_1 (i := 8) (by kernel_rfl) ?_
        refine ei_i rfl rfl (wn_none rfl) (os_pull1 (os_append (E := encDelta) rfl sB_98 zv_103 rfl rfl rfl (fun w s => (rds_row 1 rfl rfl) [] w s) rfl (by simp; have := hO.2; omega) (by unfold maxLen; simp; have := hO.2; omega))) rfl ?_; rintro _ _ ⟨ao4, ac4, rfl, rfl⟩; refine ⟨[_, _], rfl, ?_⟩
        refine e_q 9 rfl (wn_none rfl) (op_assign (v := .slice _ _ _) rfl) ?_
        refine et_nil (by kernel_rfl) ?_
        refine px_blockN ?_
        refine px_then ?_
        refine cd_region ?_
        refine oq (op_add rfl rfl (by omega) (by omega)) ?_
        refine oq (op_move (v := .int _ _) rfl) ?_
        refine ol_nil ?_
        have eS : (runM (xs.take (i + 1))) = ((stepM (runM (xs.take i)) xs[i]).1, (runM (xs.take i)).2 ++ [⟨nameR xs[i].root, xs[i].n⟩]) := by rw [runM_succ hi1]; unfold stepM; dsimp only; rw [if_pos (by omega)]
        refine px_loop2 (i + 1, ao2, ac2, ao4, ac4) (by dsimp only; omega) (by (try dsimp only); omega) ⟨congrArg (fun q => Value.slice ao2 (List.length q) ac2) (congrArg Prod.snd eS).symm, congrArg (fun q => Value.slice ao4 (List.length q) ac4) (congrArg Prod.snd eS).symm, congrArg (Value.int .i64) (by simp), trivial⟩ ?_ (fun _ s => by (try dsimp only); rw [eS]; exact (((((((s.del 6).del 3).del 1).pull 2).pull 3).pull 2).pull 3))
        repeat (first | exact kept_over | refine kept_upd rfl ?_ | refine kept_overS (by decide) ?_)
       ·have hp5 := hb5
        (try simp only [bn] at hp5)
        refine cd_skip ?_
        refine px_blockN ?_
        refine px_then ?_
        refine cd_region ?_
        refine oq (op_add rfl rfl (by omega) (by omega)) ?_
        refine oq (op_move (v := .int _ _) rfl) ?_
        refine ol_nil ?_
        have eS : (runM (xs.take (i + 1))) = ((stepM (runM (xs.take i)) xs[i]).1, (runM (xs.take i)).2) := by rw [runM_succ hi1]; unfold stepM; dsimp only; rw [if_neg (by omega)]
        refine px_loop2 (i + 1, b1, d1, b2, d2) (by dsimp only; omega) (by (try dsimp only); omega) ⟨congrArg (fun q => Value.slice b1 (List.length q) d1) (congrArg Prod.snd eS).symm, congrArg (fun q => Value.slice b2 (List.length q) d2) (congrArg Prod.snd eS).symm, congrArg (Value.int .i64) (by simp), trivial⟩ ?_ (fun _ s => by (try dsimp only); rw [eS]; exact ((((s.del 2).pull 1).pull 3).pull 3))
        repeat (first | exact kept_over | refine kept_upd rfl ?_ | refine kept_overS (by decide) ?_)
    ·have hp2 := hb2
     (try simp only [bn] at hp2)
     have hF := OKM.run xs
     have hie : i = xs.length := by omega
     rw [hie, List.take_length]
     refine cd_exit ?_
     refine px_thenE ?_
     refine px_thenE ?_
     refine px_blockE ?_
     refine px_then ?_
     refine cd_sr ?_
     refine oq (op_move (v := .pointer _) rfl) ?_
     refine ol_pull2 ?_
     refine oi (os_call cb_50 rfl (fun w s => WNew_calls _ _  s )) ?_; rintro _ _ ⟨pw13, rfl, rfl⟩
     refine oq (op_move (v := .pointer _) rfl) ?_
     refine ol_pull4 ?_
     refine oi (os_call cb_51 rfl (fun w s => RWNew_calls _ _  s )) ?_; rintro _ _ ⟨pm14, rfl, rfl⟩
     refine oq (op_assign (v := .pointer _) rfl) ?_
     refine oq (op_assign (v := .pointer _) rfl) ?_
     refine ol_nil_then ?_
     refine cd_sr ?_
     refine oq (op_move (v := .pointer _) rfl) ?_
     refine oq (op_move (v := .slice _ _ _) rfl) ?_
     refine ol_pull2 ?_
     refine ol_pull3 ?_
     refine oi (os_call cb_52 rfl (fun w s => Apply_calls (o := (growO (runM xs).1.nodes.length [])) _ _ _ _ _ _  s (Nat.le_of_eq (growO_len (Nat.zero_le _))) (OwnOK.nil.zeros _) (rds_row 2 rfl rfl) (by have := hF.2; omega))) ?_; rintro _ _ ⟨rfl, rfl⟩
     refine ol_nil_then ?_
     refine cd_sr ?_
     refine oq (op_move (v := .pointer _) rfl) ?_
     refine oq (op_move (v := .slice _ _ _) rfl) ?_
     refine ol_pull2 ?_
     refine ol_pull3 ?_
     refine oi (os_call cb_53 rfl (fun w s => RApply_calls (o := (growO (runM xs).1.nodes.length [])) _ _ _ _ _ _  s (Nat.le_of_eq (growO_len (Nat.zero_le _))) (OwnOK.nil.zeros _) (rds_row 3 rfl rfl) (by have := hF.2; omega))) ?_; rintro _ _ ⟨rfl, rfl⟩
     refine ol_nil_then ?_
     refine cd_sr ?_
     refine oq (op_move (v := .pointer _) rfl) ?_
     refine oq (op_move (v := .pointer _) rfl) ?_
     refine oq (op_move (v := .pointer _) rfl) ?_
     refine oq (op_assign (v := .pointer _) rfl) ?_
     refine oq (op_assign (v := .pointer _) rfl) ?_
     refine oq (op_assign (v := .pointer _) rfl) ?_
     refine oq (op_assign (v := .bool _) rfl) ?_
     refine ol_nil_then ?_
     refine cd_ret ?_
     exact px_ret4 rfl (v1 := .pointer _) (v2 := .pointer _) (v3 := .pointer _) (v4 := .bool _) (l' := TreeObj _ (runM xs).1 :: WObj _ _ (runM xs).1.nodes (ownM xs) :: RTreeObj _ (runM xs).1 :: RWObj _ _ (ownM xs) :: l) rfl rfl rfl rfl (fun _ s => ((((((s.del 5).del 4).pull 1).pull 1).pull 3).pull 3)) (.inr ⟨hxl, _, _, _, _, rfl, rfl⟩)
end Go.SL

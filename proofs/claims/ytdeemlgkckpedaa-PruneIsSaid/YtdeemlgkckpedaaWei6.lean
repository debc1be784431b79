import Derived.Test.YtdeemlgkckpedaaWei5
set_option linter.unusedVariables false
set_option linter.unusedSimpArgs false
namespace Go.SL
open Go.Proofs

set_option maxRecDepth 100000 in
set_option maxHeartbeats 1000000 in
theorem Own1_calls {w0 w : World} {l : List HProp} (pw pt b : Nat) (y2 y3 y4 : Value) (a : Option Addr) (c n : Nat) (T : List Int) (i : Nat) (hs : Sat w0 w ((Blk b (.cells #[.pointer (some ⟨pw, 0, none⟩)] 27 (0, 0))) :: (Blk pw (.cells #[.pointer (some ⟨pt, 0, none⟩), .slice a n c, y2, y3, y4] 116 (0, 0))) :: (Row 3 encI64 (.slice a n c) T) :: l)) (hn : T.length = n) (hi : i < n) :
  Calls Try.prog 58 #[.int .i64 (i : Int), .pointer (some ⟨b, 0, none⟩)] w (Ret w0 fun v l' => v = .int .i64 (oA T i) ∧ l' = Blk b (.cells #[.pointer (some ⟨pw, 0, none⟩)] 27 (0, 0)) :: Blk pw (.cells #[.pointer (some ⟨pt, 0, none⟩), .slice a n c, y2, y3, y4] 116 (0, 0)) :: Row 3 encI64 (.slice a n c) T :: l) := by
 refine calls_enter Try.func58 rfl rfl rfl hs ?_
 refine cd_sr ?_
 refine oq (op_assign (v := .int _ _) rfl) ?_
 refine ol_nil_then ?_
 refine cd_sr ?_
 refine oq (op_ld 0 sc_27 rfl rfl rfl) ?_
 refine oq (op_nilck rfl) ?_
 refine oq (op_field fld_116_1 rfl) ?_
 refine oq (op_ld 1 sc_42 rfl rfl rfl) ?_
 refine oq (op_move (v := .int _ _) rfl) ?_
 refine oq (op_index i sB_42 rfl rfl rfl (rds_row 2 rfl rfl) (by omega) (by omega)) ?_
 refine oq (op_ldw sc_3 (rds_row 2 rfl rfl) rfl (by omega) rfl) ?_
 refine oq (op_assign (v := .int _ _) rfl) ?_
 refine ol_nil_then ?_
 refine cd_ret ?_
 exact px_ret1 rfl (v := .int _ _) rfl (fun _ s => s) ⟨congrArg (Value.int .i64) (by rw [oA_get (show i < T.length by omega)]), rfl⟩

set_option maxRecDepth 100000 in
set_option maxHeartbeats 1000000 in
theorem Weight1_calls {w0 w : World} {l : List HProp} (pw pt b : Nat) (y1 y3 y4 : Value) (a : Option Addr) (c n : Nat) (T : List Int) (i : Nat) (hs : Sat w0 w ((Blk b (.cells #[.pointer (some ⟨pw, 0, none⟩)] 27 (0, 0))) :: (Blk pw (.cells #[.pointer (some ⟨pt, 0, none⟩), y1, .slice a n c, y3, y4] 116 (0, 0))) :: (Row 3 encI64 (.slice a n c) T) :: l)) (hn : T.length = n) (hi : i < n) :
  Calls Try.prog 60 #[.int .i64 (i : Int), .pointer (some ⟨b, 0, none⟩)] w (Ret w0 fun v l' => v = .int .i64 (oA T i) ∧ l' = Blk b (.cells #[.pointer (some ⟨pw, 0, none⟩)] 27 (0, 0)) :: Blk pw (.cells #[.pointer (some ⟨pt, 0, none⟩), y1, .slice a n c, y3, y4] 116 (0, 0)) :: Row 3 encI64 (.slice a n c) T :: l) := by
 refine calls_enter Try.func60 rfl rfl rfl hs ?_
 refine cd_sr ?_
 refine oq (op_assign (v := .int _ _) rfl) ?_
 refine ol_nil_then ?_
 refine cd_sr ?_
 refine oq (op_ld 0 sc_27 rfl rfl rfl) ?_
 refine oq (op_nilck rfl) ?_
 refine oq (op_field fld_116_2 rfl) ?_
 refine oq (op_ld 1 sc_42 rfl rfl rfl) ?_
 refine oq (op_move (v := .int _ _) rfl) ?_
 refine oq (op_index i sB_42 rfl rfl rfl (rds_row 2 rfl rfl) (by omega) (by omega)) ?_
 refine oq (op_ldw sc_3 (rds_row 2 rfl rfl) rfl (by omega) rfl) ?_
 refine oq (op_assign (v := .int _ _) rfl) ?_
 refine ol_nil_then ?_
 refine cd_ret ?_
 exact px_ret1 rfl (v := .int _ _) rfl (fun _ s => s) ⟨congrArg (Value.int .i64) (by rw [oA_get (show i < T.length by omega)]), rfl⟩

set_option maxRecDepth 100000 in
set_option maxHeartbeats 1000000 in
theorem Best1_calls {w0 w : World} {l : List HProp} (pw pt b : Nat) (y1 y2 y4 : Value) (a : Option Addr) (c n : Nat) (T : List Int) (i : Nat) (hs : Sat w0 w ((Blk b (.cells #[.pointer (some ⟨pw, 0, none⟩)] 27 (0, 0))) :: (Blk pw (.cells #[.pointer (some ⟨pt, 0, none⟩), y1, y2, .slice a n c, y4] 116 (0, 0))) :: (Row 3 encI64 (.slice a n c) T) :: l)) (hn : T.length = n) (hi : i < n) (hv : -1 ≤ oA T i ∧ oA T i < 1000000) :
  Calls Try.prog 61 #[.int .i64 (i : Int), .pointer (some ⟨b, 0, none⟩)] w (Ret w0 fun v l' => v = .int .i64 (oA T i + 1) ∧ l' = Blk b (.cells #[.pointer (some ⟨pw, 0, none⟩)] 27 (0, 0)) :: Blk pw (.cells #[.pointer (some ⟨pt, 0, none⟩), y1, y2, .slice a n c, y4] 116 (0, 0)) :: Row 3 encI64 (.slice a n c) T :: l) := by
 refine calls_enter Try.func61 rfl rfl rfl hs ?_
 refine cd_sr ?_
 refine oq (op_assign (v := .int _ _) rfl) ?_
 refine ol_nil_then ?_
 refine cd_sr ?_
 refine oq (op_ld 0 sc_27 rfl rfl rfl) ?_
 refine oq (op_nilck rfl) ?_
 refine oq (op_field fld_116_3 rfl) ?_
 refine oq (op_ld 1 sc_42 rfl rfl rfl) ?_
 refine oq (op_move (v := .int _ _) rfl) ?_
 refine oq (op_index i sB_42 rfl rfl rfl (rds_row 2 rfl rfl) (by omega) (by omega)) ?_
 refine oq (op_ldw sc_3 (rds_row 2 rfl rfl) rfl (by omega) rfl) ?_
 refine oq (op_add rfl rfl (by rw [← oA_get]; omega) (by rw [← oA_get]; omega)) ?_
 refine oq (op_assign (v := .int _ _) rfl) ?_
 refine ol_nil_then ?_
 refine cd_ret ?_
 exact px_ret1 rfl (v := .int _ _) rfl (fun _ s => s) ⟨congrArg (Value.int .i64) (by rw [oA_get (show i < T.length by omega)]), rfl⟩

set_option maxRecDepth 100000 in
set_option maxHeartbeats 1000000 in
theorem ofOwn_calls {w0 w : World} {l : List HProp} (pw pt b : Nat) (t : TreeS) (o sm be lf : List Int) (r : Root) (hs : Sat w0 w ((TreeObj pt t) :: (WRaw pw pt o sm be lf) :: (Blk b (.cells #[.pointer (some ⟨pw, 0, none⟩)] 27 (0, 0))) :: l))  :
  Calls Try.prog 57 #[.pointer (some ⟨pw, 0, none⟩), .agg (rootC r).toArray, .func (.func 58) #[] #[.pointer (some ⟨b, 0, none⟩)]] w (Ret w0 fun v l' => v = .int .i64 (ofF t o.length (oA o) r) ∧ l' = TreeObj pt t :: WRaw pw pt o sm be lf :: Blk b (.cells #[.pointer (some ⟨pw, 0, none⟩)] 27 (0, 0)) :: l) := by
 have hw := hs.treeWF
 have hm1 := hw.m1; have hm2 := hw.m2; have hle := hw.le; have hne := hw.ne; have hpa := hw.pa; have hnd := hw.nd
 obtain ⟨a1, c1, a2, c2, a3, c3, a4, c4, hs⟩ := (hs.pull 1).wrawOpen
 refine calls_enter Try.func57 rfl rfl rfl hs ?_
 refine cd_sr ?_
 refine oi (os_boxa rfl) ?_; rintro _ _ ⟨bx1, rfl, rfl⟩
 refine oq (op_assign (v := .int _ _) rfl) ?_
 refine ol_nil_then ?_
 refine cd_seq ?_
 refine cd_sr ?_
 refine oq (op_move (v := .pointer _) rfl) ?_
 refine oq (op_eqnil Try.underlying27 rfl rfl) ?_
 refine ol_nil_then ?_
 refine cd_cond_f rfl rfl ?_
 refine cd_skip ?_
 refine px_then ?_
 refine cd_seq ?_
 refine cd_pull6 ?_
 refine cd_seq ?_
 refine cd_draw (M := [_]) mx [5] (by kernel_rfl) ?_
 refine rg_q (wn_none rfl) (op_move (v := .pointer _) rfl) rfl rfl ?_
 refine rg_q (wn_none rfl) (op_nilck rfl) rfl rfl ?_
 refine rg_q (wn_none rfl) (op_field fld_116_0 rfl) rfl rfl ?_
 refine rg_q (wn_none rfl) (op_ld 1 sc_26 rfl rfl rfl) rfl rfl ?_
 refine rg_q (wn_none rfl) (op_lda (L := rootC _) 0 ag_24 rfl rfl (rootC_take' _) (by simp [rootC_len])) rfl rfl ?_
 refine rg_i (wn_none rfl) (os_call cb_31 rfl (fun w s => Place_calls _ _ _  s )) rfl rfl ?_; rintro _ _ ⟨rfl, rfl⟩; refine ⟨[_], rfl, ?_⟩
 refine rg_q (wn_none rfl) (op_assign (v := .int _ _) rfl) rfl rfl ?_
 refine rg_nil_then1 ?_
 refine cd_sr ?_
 refine oq (op_move (v := .int _ _) rfl) ?_
 refine oq (op_ge rfl rfl) ?_
 refine oq (op_move (v := .bool _) rfl) ?_
 refine ol_split 18 rfl (fun hb1 => ?_) (fun hb1 => ?_)
 ·have hp1 := hb1
  (try simp only [bn] at hp1)
  refine ol_q (wn_some rfl rfl rfl hb1 rfl) (op_move (v := .int _ _) rfl) rfl ?_
  refine ol_q (wn_some rfl rfl rfl hb1 rfl) (op_move (v := .pointer _) rfl) rfl ?_
  refine ol_q (wn_some rfl rfl rfl hb1 rfl) (op_nilck rfl) rfl ?_
  refine ol_q (wn_some rfl rfl rfl hb1 rfl) (op_field fld_116_1 rfl) rfl ?_
  refine ol_q (wn_some rfl rfl rfl hb1 rfl) (op_ld 2 sc_42 rfl rfl rfl) rfl ?_
  refine ol_q (wn_some rfl rfl rfl hb1 rfl) (op_len_slice Try.underlying42 rfl) rfl ?_
  refine ol_q (wn_some rfl rfl rfl hb1 rfl) (op_lt rfl rfl) rfl ?_
  refine oq (op_pick_t (v := .bool _) rfl hb1 rfl) ?_
  refine ol_nil_then ?_
  refine cd_cond rfl (fun hb2 => ?_) (fun hb2 => ?_)
  ·have hp2 := hb2
   (try simp only [bn] at hp2)
   obtain ⟨i, hpi, hin, hof⟩ := ofF_yes (t := t) (n := o.length) (f := (oA o)) (r := r) (by omega) (by omega)
   rw [hpi]
   refine cd_sr ?_
   refine oq (op_move (v := .func _ _ _) rfl) ?_
   refine oq (op_move (v := .int _ _) rfl) ?_
   refine ol_pull3 ?_
   refine ol_pull3 ?_
   refine ol_pull7 ?_
   refine oi (os_callv (C := [_]) (vs := [_]) cb_58 rfl rfl (fun w s => Own1_calls _ _ _ _ _ _ _ _ _ _ _  s (by first | rfl | omega) (by omega))) ?_; rintro _ _ ⟨rfl, rfl⟩
   refine oq (op_assign (v := .int _ _) rfl) ?_
   refine ol_nil_then ?_
   refine cd_ret ?_
   refine px_thenR ?_
   exact px_ret1 rfl (v := .int _ _) (l' := TreeObj pt t :: WRaw pw pt o sm be lf :: Blk b (.cells #[.pointer (some ⟨pw, 0, none⟩)] 27 (0, 0)) :: l) rfl (fun _ s => ((Sat.wrawMk rfl rfl rfl rfl (((((((s.del 4).pull 3).pull 6).pull 6).pull 6).pull 6).pull 6)).pull 1)) ⟨congrArg (Value.int .i64) (hof.symm), rfl⟩
  ·have hp2 := hb2
   (try simp only [bn] at hp2)
   refine cd_skip ?_
   refine px_then ?_
   refine cd_sr ?_
   refine oq (op_assign (v := .int _ _) rfl) ?_
   refine ol_nil_then ?_
   refine cd_ret ?_
   exact px_ret1 rfl (v := .int _ _) (l' := TreeObj pt t :: WRaw pw pt o sm be lf :: Blk b (.cells #[.pointer (some ⟨pw, 0, none⟩)] 27 (0, 0)) :: l) rfl (fun _ s => ((Sat.wrawMk rfl rfl rfl rfl ((((((((s.del 1).pull 6).pull 1).pull 6).pull 6).pull 6).pull 6).pull 6)).pull 1)) ⟨congrArg (Value.int .i64) ((ofF_no (by omega)).symm), rfl⟩
 ·have hp1 := hb1
  (try simp only [bn] at hp1)
  refine ol_skip (wn_some rfl rfl rfl hb1 rfl) rfl ?_
  refine ol_skip (wn_some rfl rfl rfl hb1 rfl) rfl ?_
  refine ol_skip (wn_some rfl rfl rfl hb1 rfl) rfl ?_
  refine ol_skip (wn_some rfl rfl rfl hb1 rfl) rfl ?_
  refine ol_skip (wn_some rfl rfl rfl hb1 rfl) rfl ?_
  refine ol_skip (wn_some rfl rfl rfl hb1 rfl) rfl ?_
  refine ol_skip (wn_some rfl rfl rfl hb1 rfl) rfl ?_
  refine oq (op_pick_f (v := .bool _) rfl hb1 rfl) ?_
  refine ol_nil_then ?_
  refine cd_cond_f rfl rfl ?_
  refine cd_skip ?_
  refine px_then ?_
  refine cd_sr ?_
  refine oq (op_assign (v := .int _ _) rfl) ?_
  refine ol_nil_then ?_
  refine cd_ret ?_
  exact px_ret1 rfl (v := .int _ _) (l' := TreeObj pt t :: WRaw pw pt o sm be lf :: Blk b (.cells #[.pointer (some ⟨pw, 0, none⟩)] 27 (0, 0)) :: l) rfl (fun _ s => ((Sat.wrawMk rfl rfl rfl rfl ((((((((s.del 1).pull 6).pull 1).pull 6).pull 6).pull 6).pull 6).pull 6)).pull 1)) ⟨congrArg (Value.int .i64) ((ofF_no (by omega)).symm), rfl⟩

set_option maxRecDepth 100000 in
set_option maxHeartbeats 1000000 in
theorem ofOwn_nil {w0 w : World} {l : List HProp} (b : Nat) (r : Root) (hs : Sat w0 w (l))  :
  Calls Try.prog 57 #[.pointer none, .agg (rootC r).toArray, .func (.func 58) #[] #[.pointer (some ⟨b, 0, none⟩)]] w (Ret w0 fun v l' => v = .int .i64 0 ∧ l' = l) := by
 refine calls_enter Try.func57 rfl rfl rfl hs ?_
 refine cd_sr ?_
 refine oi (os_boxa rfl) ?_; rintro _ _ ⟨bx1, rfl, rfl⟩
 refine oq (op_assign (v := .int _ _) rfl) ?_
 refine ol_nil_then ?_
 refine cd_seq ?_
 refine cd_sr ?_
 refine oq (op_move (v := .pointer _) rfl) ?_
 refine oq (op_eqnil Try.underlying27 rfl rfl) ?_
 refine ol_nil_then ?_
 refine cd_cond_t rfl rfl ?_
 refine cd_sr ?_
 refine oq (op_assign (v := .int _ _) rfl) ?_
 refine ol_nil_then ?_
 refine cd_ret ?_
 refine px_thenR ?_
 exact px_ret1 rfl (v := .int _ _) rfl (fun _ s => (s.del 0)) ⟨rfl, rfl⟩

set_option maxRecDepth 100000 in
set_option maxHeartbeats 1000000 in
theorem ofWeight_calls {w0 w : World} {l : List HProp} (pw pt b : Nat) (t : TreeS) (o sm be lf : List Int) (r : Root) (hs : Sat w0 w ((TreeObj pt t) :: (WRaw pw pt o sm be lf) :: (Blk b (.cells #[.pointer (some ⟨pw, 0, none⟩)] 27 (0, 0))) :: l)) (h2 : sm.length = o.length) :
  Calls Try.prog 57 #[.pointer (some ⟨pw, 0, none⟩), .agg (rootC r).toArray, .func (.func 60) #[] #[.pointer (some ⟨b, 0, none⟩)]] w (Ret w0 fun v l' => v = .int .i64 (ofF t o.length (oA sm) r) ∧ l' = TreeObj pt t :: WRaw pw pt o sm be lf :: Blk b (.cells #[.pointer (some ⟨pw, 0, none⟩)] 27 (0, 0)) :: l) := by
 have hw := hs.treeWF
 have hm1 := hw.m1; have hm2 := hw.m2; have hle := hw.le; have hne := hw.ne; have hpa := hw.pa; have hnd := hw.nd
 obtain ⟨a1, c1, a2, c2, a3, c3, a4, c4, hs⟩ := (hs.pull 1).wrawOpen
 refine calls_enter Try.func57 rfl rfl rfl hs ?_
 refine cd_sr ?_
 refine oi (os_boxa rfl) ?_; rintro _ _ ⟨bx1, rfl, rfl⟩
 refine oq (op_assign (v := .int _ _) rfl) ?_
 refine ol_nil_then ?_
 refine cd_seq ?_
 refine cd_sr ?_
 refine oq (op_move (v := .pointer _) rfl) ?_
 refine oq (op_eqnil Try.underlying27 rfl rfl) ?_
 refine ol_nil_then ?_
 refine cd_cond_f rfl rfl ?_
 refine cd_skip ?_
 refine px_then ?_
 refine cd_seq ?_
 refine cd_pull6 ?_
 refine cd_seq ?_
 refine cd_draw (M := [_]) mx [5] (by kernel_rfl) ?_
 refine rg_q (wn_none rfl) (op_move (v := .pointer _) rfl) rfl rfl ?_
 refine rg_q (wn_none rfl) (op_nilck rfl) rfl rfl ?_
 refine rg_q (wn_none rfl) (op_field fld_116_0 rfl) rfl rfl ?_
 refine rg_q (wn_none rfl) (op_ld 1 sc_26 rfl rfl rfl) rfl rfl ?_
 refine rg_q (wn_none rfl) (op_lda (L := rootC _) 0 ag_24 rfl rfl (rootC_take' _) (by simp [rootC_len])) rfl rfl ?_
 refine rg_i (wn_none rfl) (os_call cb_31 rfl (fun w s => Place_calls _ _ _  s )) rfl rfl ?_; rintro _ _ ⟨rfl, rfl⟩; refine ⟨[_], rfl, ?_⟩
 refine rg_q (wn_none rfl) (op_assign (v := .int _ _) rfl) rfl rfl ?_
 refine rg_nil_then1 ?_
 refine cd_sr ?_
 refine oq (op_move (v := .int _ _) rfl) ?_
 refine oq (op_ge rfl rfl) ?_
 refine oq (op_move (v := .bool _) rfl) ?_
 refine ol_split 18 rfl (fun hb1 => ?_) (fun hb1 => ?_)
 ·have hp1 := hb1
  (try simp only [bn] at hp1)
  refine ol_q (wn_some rfl rfl rfl hb1 rfl) (op_move (v := .int _ _) rfl) rfl ?_
  refine ol_q (wn_some rfl rfl rfl hb1 rfl) (op_move (v := .pointer _) rfl) rfl ?_
  refine ol_q (wn_some rfl rfl rfl hb1 rfl) (op_nilck rfl) rfl ?_
  refine ol_q (wn_some rfl rfl rfl hb1 rfl) (op_field fld_116_1 rfl) rfl ?_
  refine ol_q (wn_some rfl rfl rfl hb1 rfl) (op_ld 2 sc_42 rfl rfl rfl) rfl ?_
  refine ol_q (wn_some rfl rfl rfl hb1 rfl) (op_len_slice Try.underlying42 rfl) rfl ?_
  refine ol_q (wn_some rfl rfl rfl hb1 rfl) (op_lt rfl rfl) rfl ?_
  refine oq (op_pick_t (v := .bool _) rfl hb1 rfl) ?_
  refine ol_nil_then ?_
  refine cd_cond rfl (fun hb2 => ?_) (fun hb2 => ?_)
  ·have hp2 := hb2
   (try simp only [bn] at hp2)
   obtain ⟨i, hpi, hin, hof⟩ := ofF_yes (t := t) (n := o.length) (f := (oA sm)) (r := r) (by omega) (by omega)
   rw [hpi]
   refine cd_sr ?_
   refine oq (op_move (v := .func _ _ _) rfl) ?_
   refine oq (op_move (v := .int _ _) rfl) ?_
   refine ol_pull4 ?_
   refine ol_pull3 ?_
   refine ol_pull7 ?_
   refine oi (os_callv (C := [_]) (vs := [_]) cb_60 rfl rfl (fun w s => Weight1_calls _ _ _ _ _ _ _ _ _ _ _  s (by first | rfl | omega) (by omega))) ?_; rintro _ _ ⟨rfl, rfl⟩
   refine oq (op_assign (v := .int _ _) rfl) ?_
   refine ol_nil_then ?_
   refine cd_ret ?_
   refine px_thenR ?_
   exact px_ret1 rfl (v := .int _ _) (l' := TreeObj pt t :: WRaw pw pt o sm be lf :: Blk b (.cells #[.pointer (some ⟨pw, 0, none⟩)] 27 (0, 0)) :: l) rfl (fun _ s => ((Sat.wrawMk rfl rfl rfl rfl (((((((s.del 4).pull 3).pull 6).pull 6).pull 5).pull 6).pull 6)).pull 1)) ⟨congrArg (Value.int .i64) (hof.symm), rfl⟩
  ·have hp2 := hb2
   (try simp only [bn] at hp2)
   refine cd_skip ?_
   refine px_then ?_
   refine cd_sr ?_
   refine oq (op_assign (v := .int _ _) rfl) ?_
   refine ol_nil_then ?_
   refine cd_ret ?_
   exact px_ret1 rfl (v := .int _ _) (l' := TreeObj pt t :: WRaw pw pt o sm be lf :: Blk b (.cells #[.pointer (some ⟨pw, 0, none⟩)] 27 (0, 0)) :: l) rfl (fun _ s => ((Sat.wrawMk rfl rfl rfl rfl ((((((((s.del 1).pull 6).pull 1).pull 6).pull 6).pull 6).pull 6).pull 6)).pull 1)) ⟨congrArg (Value.int .i64) ((ofF_no (by omega)).symm), rfl⟩
 ·have hp1 := hb1
  (try simp only [bn] at hp1)
  refine ol_skip (wn_some rfl rfl rfl hb1 rfl) rfl ?_
  refine ol_skip (wn_some rfl rfl rfl hb1 rfl) rfl ?_
  refine ol_skip (wn_some rfl rfl rfl hb1 rfl) rfl ?_
  refine ol_skip (wn_some rfl rfl rfl hb1 rfl) rfl ?_
  refine ol_skip (wn_some rfl rfl rfl hb1 rfl) rfl ?_
  refine ol_skip (wn_some rfl rfl rfl hb1 rfl) rfl ?_
  refine ol_skip (wn_some rfl rfl rfl hb1 rfl) rfl ?_
  refine oq (op_pick_f (v := .bool _) rfl hb1 rfl) ?_
  refine ol_nil_then ?_
  refine cd_cond_f rfl rfl ?_
  refine cd_skip ?_
  refine px_then ?_
  refine cd_sr ?_
  refine oq (op_assign (v := .int _ _) rfl) ?_
  refine ol_nil_then ?_
  refine cd_ret ?_
  exact px_ret1 rfl (v := .int _ _) (l' := TreeObj pt t :: WRaw pw pt o sm be lf :: Blk b (.cells #[.pointer (some ⟨pw, 0, none⟩)] 27 (0, 0)) :: l) rfl (fun _ s => ((Sat.wrawMk rfl rfl rfl rfl ((((((((s.del 1).pull 6).pull 1).pull 6).pull 6).pull 6).pull 6).pull 6)).pull 1)) ⟨congrArg (Value.int .i64) ((ofF_no (by omega)).symm), rfl⟩

set_option maxRecDepth 100000 in
set_option maxHeartbeats 1000000 in
theorem ofWeight_nil {w0 w : World} {l : List HProp} (b : Nat) (r : Root) (hs : Sat w0 w (l))  :
  Calls Try.prog 57 #[.pointer none, .agg (rootC r).toArray, .func (.func 60) #[] #[.pointer (some ⟨b, 0, none⟩)]] w (Ret w0 fun v l' => v = .int .i64 0 ∧ l' = l) := by
 refine calls_enter Try.func57 rfl rfl rfl hs ?_
 refine cd_sr ?_
 refine oi (os_boxa rfl) ?_; rintro _ _ ⟨bx1, rfl, rfl⟩
 refine oq (op_assign (v := .int _ _) rfl) ?_
 refine ol_nil_then ?_
 refine cd_seq ?_
 refine cd_sr ?_
 refine oq (op_move (v := .pointer _) rfl) ?_
 refine oq (op_eqnil Try.underlying27 rfl rfl) ?_
 refine ol_nil_then ?_
 refine cd_cond_t rfl rfl ?_
 refine cd_sr ?_
 refine oq (op_assign (v := .int _ _) rfl) ?_
 refine ol_nil_then ?_
 refine cd_ret ?_
 refine px_thenR ?_
 exact px_ret1 rfl (v := .int _ _) rfl (fun _ s => (s.del 0)) ⟨rfl, rfl⟩

set_option maxRecDepth 100000 in
set_option maxHeartbeats 1000000 in
theorem ofBest_calls {w0 w : World} {l : List HProp} (pw pt b : Nat) (t : TreeS) (o sm be lf : List Int) (r : Root) (hs : Sat w0 w ((TreeObj pt t) :: (WRaw pw pt o sm be lf) :: (Blk b (.cells #[.pointer (some ⟨pw, 0, none⟩)] 27 (0, 0))) :: l)) (h2 : be.length = o.length) (hv : ∀ i, i < o.length → -1 ≤ oA be i ∧ oA be i < 1000000) :
  Calls Try.prog 57 #[.pointer (some ⟨pw, 0, none⟩), .agg (rootC r).toArray, .func (.func 61) #[] #[.pointer (some ⟨b, 0, none⟩)]] w (Ret w0 fun v l' => v = .int .i64 (ofF t o.length (fun i => oA be i + 1) r) ∧ l' = TreeObj pt t :: WRaw pw pt o sm be lf :: Blk b (.cells #[.pointer (some ⟨pw, 0, none⟩)] 27 (0, 0)) :: l) := by
 have hw := hs.treeWF
 have hm1 := hw.m1; have hm2 := hw.m2; have hle := hw.le; have hne := hw.ne; have hpa := hw.pa; have hnd := hw.nd
 obtain ⟨a1, c1, a2, c2, a3, c3, a4, c4, hs⟩ := (hs.pull 1).wrawOpen
 refine calls_enter Try.func57 rfl rfl rfl hs ?_
 refine cd_sr ?_
 refine oi (os_boxa rfl) ?_; rintro _ _ ⟨bx1, rfl, rfl⟩
 refine oq (op_assign (v := .int _ _) rfl) ?_
 refine ol_nil_then ?_
 refine cd_seq ?_
 refine cd_sr ?_
 refine oq (op_move (v := .pointer _) rfl) ?_
 refine oq (op_eqnil Try.underlying27 rfl rfl) ?_
 refine ol_nil_then ?_
 refine cd_cond_f rfl rfl ?_
 refine cd_skip ?_
 refine px_then ?_
 refine cd_seq ?_
 refine cd_pull6 ?_
 refine cd_seq ?_
 refine cd_draw (M := [_]) mx [5] (by kernel_rfl) ?_
 refine rg_q (wn_none rfl) (op_move (v := .pointer _) rfl) rfl rfl ?_
 refine rg_q (wn_none rfl) (op_nilck rfl) rfl rfl ?_
 refine rg_q (wn_none rfl) (op_field fld_116_0 rfl) rfl rfl ?_
 refine rg_q (wn_none rfl) (op_ld 1 sc_26 rfl rfl rfl) rfl rfl ?_
 refine rg_q (wn_none rfl) (op_lda (L := rootC _) 0 ag_24 rfl rfl (rootC_take' _) (by simp [rootC_len])) rfl rfl ?_
 refine rg_i (wn_none rfl) (os_call cb_31 rfl (fun w s => Place_calls _ _ _  s )) rfl rfl ?_; rintro _ _ ⟨rfl, rfl⟩; refine ⟨[_], rfl, ?_⟩
 refine rg_q (wn_none rfl) (op_assign (v := .int _ _) rfl) rfl rfl ?_
 refine rg_nil_then1 ?_
 refine cd_sr ?_
 refine oq (op_move (v := .int _ _) rfl) ?_
 refine oq (op_ge rfl rfl) ?_
 refine oq (op_move (v := .bool _) rfl) ?_
 refine ol_split 18 rfl (fun hb1 => ?_) (fun hb1 => ?_)
 ·have hp1 := hb1
  (try simp only [bn] at hp1)
  refine ol_q (wn_some rfl rfl rfl hb1 rfl) (op_move (v := .int _ _) rfl) rfl ?_
  refine ol_q (wn_some rfl rfl rfl hb1 rfl) (op_move (v := .pointer _) rfl) rfl ?_
  refine ol_q (wn_some rfl rfl rfl hb1 rfl) (op_nilck rfl) rfl ?_
  refine ol_q (wn_some rfl rfl rfl hb1 rfl) (op_field fld_116_1 rfl) rfl ?_
  refine ol_q (wn_some rfl rfl rfl hb1 rfl) (op_ld 2 sc_42 rfl rfl rfl) rfl ?_
  refine ol_q (wn_some rfl rfl rfl hb1 rfl) (op_len_slice Try.underlying42 rfl) rfl ?_
  refine ol_q (wn_some rfl rfl rfl hb1 rfl) (op_lt rfl rfl) rfl ?_
  refine oq (op_pick_t (v := .bool _) rfl hb1 rfl) ?_
  refine ol_nil_then ?_
  refine cd_cond rfl (fun hb2 => ?_) (fun hb2 => ?_)
  ·have hp2 := hb2
   (try simp only [bn] at hp2)
   obtain ⟨i, hpi, hin, hof⟩ := ofF_yes (t := t) (n := o.length) (f := (fun i => oA be i + 1)) (r := r) (by omega) (by omega)
   rw [hpi]
   refine cd_sr ?_
   refine oq (op_move (v := .func _ _ _) rfl) ?_
   refine oq (op_move (v := .int _ _) rfl) ?_
   refine ol_pull5 ?_
   refine ol_pull3 ?_
   refine ol_pull7 ?_
   refine oi (os_callv (C := [_]) (vs := [_]) cb_61 rfl rfl (fun w s => Best1_calls _ _ _ _ _ _ _ _ _ _ _  s (by first | rfl | omega) (by omega) (hv _ (by omega)))) ?_; rintro _ _ ⟨rfl, rfl⟩
   refine oq (op_assign (v := .int _ _) rfl) ?_
   refine ol_nil_then ?_
   refine cd_ret ?_
   refine px_thenR ?_
   exact px_ret1 rfl (v := .int _ _) (l' := TreeObj pt t :: WRaw pw pt o sm be lf :: Blk b (.cells #[.pointer (some ⟨pw, 0, none⟩)] 27 (0, 0)) :: l) rfl (fun _ s => ((Sat.wrawMk rfl rfl rfl rfl (((((((s.del 4).pull 3).pull 6).pull 4).pull 6).pull 6).pull 6)).pull 1)) ⟨congrArg (Value.int .i64) (hof.symm), rfl⟩
  ·have hp2 := hb2
   (try simp only [bn] at hp2)
   refine cd_skip ?_
   refine px_then ?_
   refine cd_sr ?_
   refine oq (op_assign (v := .int _ _) rfl) ?_
   refine ol_nil_then ?_
   refine cd_ret ?_
   exact px_ret1 rfl (v := .int _ _) (l' := TreeObj pt t :: WRaw pw pt o sm be lf :: Blk b (.cells #[.pointer (some ⟨pw, 0, none⟩)] 27 (0, 0)) :: l) rfl (fun _ s => ((Sat.wrawMk rfl rfl rfl rfl ((((((((s.del 1).pull 6).pull 1).pull 6).pull 6).pull 6).pull 6).pull 6)).pull 1)) ⟨congrArg (Value.int .i64) ((ofF_no (by omega)).symm), rfl⟩
 ·have hp1 := hb1
  (try simp only [bn] at hp1)
  refine ol_skip (wn_some rfl rfl rfl hb1 rfl) rfl ?_
  refine ol_skip (wn_some rfl rfl rfl hb1 rfl) rfl ?_
  refine ol_skip (wn_some rfl rfl rfl hb1 rfl) rfl ?_
  refine ol_skip (wn_some rfl rfl rfl hb1 rfl) rfl ?_
  refine ol_skip (wn_some rfl rfl rfl hb1 rfl) rfl ?_
  refine ol_skip (wn_some rfl rfl rfl hb1 rfl) rfl ?_
  refine ol_skip (wn_some rfl rfl rfl hb1 rfl) rfl ?_
  refine oq (op_pick_f (v := .bool _) rfl hb1 rfl) ?_
  refine ol_nil_then ?_
  refine cd_cond_f rfl rfl ?_
  refine cd_skip ?_
  refine px_then ?_
  refine cd_sr ?_
  refine oq (op_assign (v := .int _ _) rfl) ?_
  refine ol_nil_then ?_
  refine cd_ret ?_
  exact px_ret1 rfl (v := .int _ _) (l' := TreeObj pt t :: WRaw pw pt o sm be lf :: Blk b (.cells #[.pointer (some ⟨pw, 0, none⟩)] 27 (0, 0)) :: l) rfl (fun _ s => ((Sat.wrawMk rfl rfl rfl rfl ((((((((s.del 1).pull 6).pull 1).pull 6).pull 6).pull 6).pull 6).pull 6)).pull 1)) ⟨congrArg (Value.int .i64) ((ofF_no (by omega)).symm), rfl⟩

set_option maxRecDepth 100000 in
set_option maxHeartbeats 1000000 in
theorem ofBest_nil {w0 w : World} {l : List HProp} (b : Nat) (r : Root) (hs : Sat w0 w (l))  :
  Calls Try.prog 57 #[.pointer none, .agg (rootC r).toArray, .func (.func 61) #[] #[.pointer (some ⟨b, 0, none⟩)]] w (Ret w0 fun v l' => v = .int .i64 0 ∧ l' = l) := by
 refine calls_enter Try.func57 rfl rfl rfl hs ?_
 refine cd_sr ?_
 refine oi (os_boxa rfl) ?_; rintro _ _ ⟨bx1, rfl, rfl⟩
 refine oq (op_assign (v := .int _ _) rfl) ?_
 refine ol_nil_then ?_
 refine cd_seq ?_
 refine cd_sr ?_
 refine oq (op_move (v := .pointer _) rfl) ?_
 refine oq (op_eqnil Try.underlying27 rfl rfl) ?_
 refine ol_nil_then ?_
 refine cd_cond_t rfl rfl ?_
 refine cd_sr ?_
 refine oq (op_assign (v := .int _ _) rfl) ?_
 refine ol_nil_then ?_
 refine cd_ret ?_
 refine px_thenR ?_
 exact px_ret1 rfl (v := .int _ _) rfl (fun _ s => (s.del 0)) ⟨rfl, rfl⟩

theorem ofF_congr {t : TreeS} {n : Nat} {f g : Nat → Int} {r : Root} (h : ∀ i, i < n → f i = g i) : ofF t n f r = ofF t n g r := by
 unfold ofF
 cases idxOf t.nodes r with
 | none => rfl
 | some i =>
  dsimp only
  by_cases hi : i < n
  ·rw [if_pos hi, if_pos hi, h i hi]
  ·rw [if_neg hi, if_neg hi]

set_option maxRecDepth 100000 in
set_option maxHeartbeats 1000000 in
theorem Own_calls {w0 w : World} {l : List HProp} (pw pt : Nat) (t : TreeS) (o : List Int) (r : Root) (hs : Sat w0 w ((TreeObj pt t) :: (WObj pw pt t.nodes o) :: l))  :
  Calls Try.prog 26 #[.pointer (some ⟨pw, 0, none⟩), .agg (rootC r).toArray] w (Ret w0 fun v l' => v = .int .i64 (ofF t o.length (oA o) r) ∧ l' = TreeObj pt t :: WObj pw pt t.nodes o :: l) := by
 have hw := hs.treeWF
 have hm1 := hw.m1; have hm2 := hw.m2; have hle := hw.le; have hpa := hw.pa; have hnd := hw.nd
 have hsl := sumL_len t.nodes o
 have hbl := bestL_len t.nodes (sumL t.nodes o)
 have hll := leafL_len t.nodes (sumL t.nodes o)
 refine calls_enter Try.func26 rfl rfl rfl hs ?_
 refine cd_sr ?_
 refine oi (os_box (v := .pointer _) rfl rfl) ?_; rintro _ _ ⟨bx1, rfl, rfl⟩
 refine oi (os_boxa rfl) ?_; rintro _ _ ⟨bx2, rfl, rfl⟩
 refine oq (op_assign (v := .int _ _) rfl) ?_
 refine ol_nil_then ?_
 refine cd_sr ?_
 refine oq (op_ld 1 sc_27 rfl rfl rfl) ?_
 refine oq (op_lda (L := rootC _) 0 ag_24 rfl rfl (rootC_take' _) (by simp [rootC_len])) ?_
 refine oq (op_makefunc (F := []) (C := [_]) rfl rfl) ?_
 refine ol_pull1 ?_
 refine ol_pull3 ?_
 refine ol_pull3 ?_
 refine oi (os_call cb_57 rfl (fun w s => ofOwn_calls _ _ _ _ _ _ _ _ _  s )) ?_; rintro _ _ ⟨rfl, rfl⟩
 refine oq (op_assign (v := .int _ _) rfl) ?_
 refine ol_nil_then ?_
 refine cd_ret ?_
 exact px_ret1 rfl (v := .int _ _) rfl (fun _ s => ((s.del 3).del 2)) ⟨rfl, rfl⟩

set_option maxRecDepth 100000 in
set_option maxHeartbeats 1000000 in
theorem Weight_calls {w0 w : World} {l : List HProp} (pw pt : Nat) (t : TreeS) (o : List Int) (r : Root) (hs : Sat w0 w ((TreeObj pt t) :: (WObj pw pt t.nodes o) :: l))  :
  Calls Try.prog 28 #[.pointer (some ⟨pw, 0, none⟩), .agg (rootC r).toArray] w (Ret w0 fun v l' => v = .int .i64 (ofF t o.length (sumN t.nodes o) r) ∧ l' = TreeObj pt t :: WObj pw pt t.nodes o :: l) := by
 have hw := hs.treeWF
 have hm1 := hw.m1; have hm2 := hw.m2; have hle := hw.le; have hpa := hw.pa; have hnd := hw.nd
 have hsl := sumL_len t.nodes o
 have hbl := bestL_len t.nodes (sumL t.nodes o)
 have hll := leafL_len t.nodes (sumL t.nodes o)
 refine calls_enter Try.func28 rfl rfl rfl hs ?_
 refine cd_sr ?_
 refine oi (os_box (v := .pointer _) rfl rfl) ?_; rintro _ _ ⟨bx1, rfl, rfl⟩
 refine oi (os_boxa rfl) ?_; rintro _ _ ⟨bx2, rfl, rfl⟩
 refine oq (op_assign (v := .int _ _) rfl) ?_
 refine ol_nil_then ?_
 refine cd_sr ?_
 refine oq (op_ld 1 sc_27 rfl rfl rfl) ?_
 refine oq (op_lda (L := rootC _) 0 ag_24 rfl rfl (rootC_take' _) (by simp [rootC_len])) ?_
 refine oq (op_makefunc (F := []) (C := [_]) rfl rfl) ?_
 refine ol_pull1 ?_
 refine ol_pull3 ?_
 refine ol_pull3 ?_
 refine oi (os_call cb_57 rfl (fun w s => ofWeight_calls _ _ _ _ _ _ _ _ _  s (by first | assumption | omega | (simp; done)))) ?_; rintro _ _ ⟨rfl, rfl⟩
 refine oq (op_assign (v := .int _ _) rfl) ?_
 refine ol_nil_then ?_
 refine cd_ret ?_
 exact px_ret1 rfl (v := .int _ _) rfl (fun _ s => ((s.del 3).del 2)) ⟨congrArg (Value.int .i64) (ofF_congr fun i hi => sumL_at hi), rfl⟩

set_option maxRecDepth 100000 in
set_option maxHeartbeats 1000000 in
theorem Own_nil {w0 w : World} {l : List HProp} (r : Root) (hs : Sat w0 w (l))  :
  Calls Try.prog 26 #[.pointer none, .agg (rootC r).toArray] w (Ret w0 fun v l' => v = .int .i64 0 ∧ l' = l) := by
 refine calls_enter Try.func26 rfl rfl rfl hs ?_
 refine cd_sr ?_
 refine oi (os_box (v := .pointer _) rfl rfl) ?_; rintro _ _ ⟨bx1, rfl, rfl⟩
 refine oi (os_boxa rfl) ?_; rintro _ _ ⟨bx2, rfl, rfl⟩
 refine oq (op_assign (v := .int _ _) rfl) ?_
 refine ol_nil_then ?_
 refine cd_sr ?_
 refine oq (op_ld 1 sc_27 rfl rfl rfl) ?_
 refine oq (op_lda (L := rootC _) 0 ag_24 rfl rfl (rootC_take' _) (by simp [rootC_len])) ?_
 refine oq (op_makefunc (F := []) (C := [_]) rfl rfl) ?_
 refine oi (os_call cb_57 rfl (fun w s => ofOwn_nil _ _  s )) ?_; rintro _ l ⟨rfl, rfl⟩
 refine oq (op_assign (v := .int _ _) rfl) ?_
 refine ol_nil_then ?_
 refine cd_ret ?_
 exact px_ret1 rfl (v := .int _ _) rfl (fun _ s => ((s.del 1).del 0)) ⟨rfl, rfl⟩

set_option maxRecDepth 100000 in
set_option maxHeartbeats 1000000 in
theorem Weight_nil {w0 w : World} {l : List HProp} (r : Root) (hs : Sat w0 w (l))  :
  Calls Try.prog 28 #[.pointer none, .agg (rootC r).toArray] w (Ret w0 fun v l' => v = .int .i64 0 ∧ l' = l) := by
 refine calls_enter Try.func28 rfl rfl rfl hs ?_
 refine cd_sr ?_
 refine oi (os_box (v := .pointer _) rfl rfl) ?_; rintro _ _ ⟨bx1, rfl, rfl⟩
 refine oi (os_boxa rfl) ?_; rintro _ _ ⟨bx2, rfl, rfl⟩
 refine oq (op_assign (v := .int _ _) rfl) ?_
 refine ol_nil_then ?_
 refine cd_sr ?_
 refine oq (op_ld 1 sc_27 rfl rfl rfl) ?_
 refine oq (op_lda (L := rootC _) 0 ag_24 rfl rfl (rootC_take' _) (by simp [rootC_len])) ?_
 refine oq (op_makefunc (F := []) (C := [_]) rfl rfl) ?_
 refine oi (os_call cb_57 rfl (fun w s => ofWeight_nil _ _  s )) ?_; rintro _ l ⟨rfl, rfl⟩
 refine oq (op_assign (v := .int _ _) rfl) ?_
 refine ol_nil_then ?_
 refine cd_ret ?_
 exact px_ret1 rfl (v := .int _ _) rfl (fun _ s => ((s.del 1).del 0)) ⟨rfl, rfl⟩
end Go.SL

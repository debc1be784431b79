import Derived.Test.YtgdlddjalilmhaaMSha2
import Derived.Test.YtgdlddjalilmhaaSha2
set_option linter.unusedVariables false
set_option linter.unusedSimpArgs false
namespace Go.SL
open Go.Proofs

set_option maxRecDepth 100000 in
set_option maxHeartbeats 1000000 in
theorem Of_calls {w0 w : World} {l : List HProp} (lo : Option Addr) (lc : Nat) (ts : List (List UInt8)) (hs : Sat w0 w (l)) (hr : Rds w0 l encStr lo ts) (hn : ts.flatten.length < 100000000) (hlen : ts.length ≤ 1000000) :
    Calls Try.prog 58 #[.slice lo ts.length lc] w (Ret w0 fun v l' => v = .agg (rootC (shaM ts.flatten)).toArray ∧ l' = l) := by
  refine calls_enter Try.func58 rfl rfl rfl hs ?_
  refine cd_sr ?_   -- 0
  refine ol_i (wn_none rfl) (os_alloc (cs := (rootC Root.zero).toArray) zB_40 (by kernel_rfl)) rfl ?_; rintro _ _ ⟨bx1, rfl, rfl⟩
  refine ol_nil_then ?_
  refine cd_sr ?_   -- 1
  refine ol_i (wn_none rfl) (os_call cb_64 rfl (fun w s => first_calls  s )) rfl ?_; rintro _ l ⟨rfl, rfl⟩
  refine ol_q (wn_none rfl) (op_build (L := stC _) (vs := [(0, .agg (w8C _).toArray)]) bB_94 rfl ⟨⟨by simp [Value.cells, w8C_len], by rw [stC_len]; rfl⟩, trivial⟩ ((stC_b0 _ _ _).trans rfl)) rfl ?_
  refine ol_i (wn_none rfl) (os_boxa rfl) rfl ?_; rintro _ _ ⟨bx2, rfl, rfl⟩
  refine ol_q (wn_none rfl) (op_assign (v := .pointer _) rfl) rfl ?_
  refine ol_nil_then ?_
  refine cd_seq ?_
  refine cd_sr ?_   -- 2
  refine ol_q (wn_none rfl) (op_move (v := .slice _ _ _) rfl) rfl ?_
  refine ol_q (wn_none rfl) (op_len_slice Try.underlying88 rfl) rfl ?_
  refine ol_q (wn_none rfl) (op_move (v := .int _ _) rfl) rfl ?_
  refine ol_nil_then ?_
  refine cd_block ?_
  refine cd_loop2 (α := Nat × Option Addr × Nat) [(5, 5), (11, 18)] (fun x => [(11, .int .i64 (x.1 : Int))]) (fun x => Blk bx2 (.cells (stC ⟨runs H8 (ts.take x.1).flatten, ⟨x.2.1, (left (ts.take x.1).flatten).length, x.2.2⟩, (ts.take x.1).flatten.length⟩).toArray 94 (0, 0)) :: Row 5 encU8 (.slice x.2.1 (left (ts.take x.1).flatten).length x.2.2) (left (ts.take x.1).flatten) :: Blk bx1 (.cells (rootC Root.zero).toArray 40 (0, 0)) :: l) (fun x => x.1 ≤ ts.length) (fun x => ts.length - x.1) (0, none, 0) (Nat.zero_le _) ⟨rfl, trivial⟩ (fun _ s => by dsimp only; rw [List.take_zero, List.flatten_nil, left_nil, runs_nil]; exact (Sat.rowNil s).pull 1) ?_
  rintro ⟨i, bo, bc⟩ hi f; (try dsimp only at hi ⊢)
  refine cd_sr ?_   -- 3
  refine ol_q (wn_none rfl) (op_lt rfl rfl) rfl ?_
  refine ol_nil_then ?_
  refine cd_seq ?_
  refine cd_cond rfl (fun hb1 => ?_) (fun hb1 => ?_)
  · have hp1 := hb1
    (try simp only [decide_eq_true_eq, decide_eq_false_iff_not, Bool.not_eq_true', Bool.not_eq_false', ne_eq, Decidable.not_not] at hp1)
    have hi1 : i < ts.length := by omega
    have e1 : (ts.take (i + 1)).flatten = (ts.take i).flatten ++ ts[i] := by rw [List.take_succ_eq_append_getElem hi1, List.flatten_append, List.flatten_cons, List.flatten_nil, List.append_nil]
    have e2 := runs_append ts[i] _ (ts.take i).flatten H8 rfl
    have e3 : ts.flatten.length = (ts.take (i + 1)).flatten.length + (ts.drop (i + 1)).flatten.length := by rw [← List.length_append, ← List.flatten_append, List.take_append_drop]
    rw [e1, List.length_append] at e3
    have e4 := left_length (ts.take i).flatten
    refine cd_skip ?_
    refine px_then ?_
    refine cd_seq ?_
    refine cd_block ?_
    refine cd_sr ?_   -- 4
    refine ol_q (wn_none rfl) (op_index _ sB_88 rfl rfl rfl (((hr.cons _).cons _).cons _) rfl (by omega)) rfl ?_
    refine ol_q (wn_none rfl) (op_ldw sc_9 (((hr.cons _).cons _).cons _) rfl (by omega) rfl) rfl ?_
    refine ol_q (wn_none rfl) (op_assign (v := .string _) rfl) rfl ?_
    refine ol_nil_then ?_
    refine cd_region ?_   -- 5
    refine ol_q (wn_none rfl) (op_move (v := .pointer _) rfl) rfl ?_
    refine ol_q (wn_none rfl) (op_move (v := .string _) rfl) rfl ?_
    refine ol_pull1 ?_
    refine ol_pull1 ?_
    refine ol_i (wn_none rfl) (os_call cb_65 rfl (fun w s => add_calls _ _ _ _ _ _ _  s (by omega) (by omega))) rfl ?_; rintro _ _ ⟨ro2, rc2, rfl, rfl⟩
    refine ol_nil ?_
    refine px_blockN ?_
    refine px_then ?_
    refine cd_region ?_   -- 6
    refine ol_q (wn_none rfl) (op_add rfl rfl (by omega) (by omega)) rfl ?_
    refine ol_q (wn_none rfl) (op_move (v := .int _ _) rfl) rfl ?_
    refine ol_nil ?_
    refine px_loop2 (i + 1, ro2, rc2) (by dsimp only; omega) (by (try dsimp only); omega) ⟨congrArg (Value.int .i64) (by simp), trivial⟩ ?_ (fun _ s => (by (try dsimp only); rw [e1, e2.1, e2.2, List.length_append]; exact s))
    repeat (first | exact kept_over | refine kept_upd rfl ?_ | refine kept_overS (by decide) ?_)
  · have hp1 := hb1
    (try simp only [decide_eq_true_eq, decide_eq_false_iff_not, Bool.not_eq_true', Bool.not_eq_false', ne_eq, Decidable.not_not] at hp1)
    obtain rfl : i = ts.length := by omega
    rw [List.take_length]
    have e4 := left_length ts.flatten
    refine cd_exit ?_
    refine px_thenE ?_
    refine px_thenE ?_
    refine px_blockE ?_
    refine px_then ?_
    refine cd_sr ?_   -- 7
    refine ol_q (wn_none rfl) (op_move (v := .pointer _) rfl) rfl ?_
    refine ol_pull1 ?_
    refine ol_pull1 ?_
    refine ol_i (wn_none rfl) (os_call cb_66 rfl (fun w s => end_calls _ _ _ _ _ _  s (by omega) (by omega))) rfl ?_; rintro _ l ⟨rfl, rfl⟩
    refine ol_iN (wn_none rfl) (os_storera _ ag_40 rfl rfl (Free.zero _)) ?_; rintro _ _ ⟨rfl, rfl⟩
    refine ol_nil_then ?_
    refine cd_ret ?_
    exact px_rv1 rfl (rv_cella 0 ag_40 rfl rfl (rootC_take' _) (by simp [rootC_len])) (fun _ s => (s.del 0)) ⟨rfl, rfl⟩

theorem abc_len : (hexS (shaM [97, 98, 99]).1).length = 64 := by rw [hexS_len, (shaM [97, 98, 99]).2]

theorem abc_hex : hexS (shaM [97, 98, 99]).1 = [98, 97, 55, 56, 49, 54, 98, 102, 56, 102, 48, 49, 99, 102, 101, 97, 52, 49, 52, 49, 52, 48, 100, 101, 53, 100, 97, 101, 50, 50, 50, 51, 98, 48, 48, 51, 54, 49, 97, 51, 57, 54, 49, 55, 55, 97, 57, 99, 98, 52, 49, 48, 102, 102, 54, 49, 102, 50, 48, 48, 49, 53, 97, 100] := by decide +kernel
end Go.SL

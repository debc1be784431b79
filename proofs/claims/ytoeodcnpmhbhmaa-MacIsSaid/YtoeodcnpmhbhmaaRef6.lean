import Derived.Test.YtoeodcnpmhbhmaaRef4
set_option linter.unusedVariables false
set_option linter.unusedSimpArgs false
namespace Go.SL
open Go.Proofs

set_option maxRecDepth 100000 in
set_option maxHeartbeats 1000000 in
theorem MacIs_calls {w0 w : World} {l : List HProp} (key s : List UInt8) (n : Int) (hs : Sat w0 w (l))  :
    Calls Try.prog 11 #[.string (B key), .string (B s), .int .i64 n] w (Ret w0 fun v l' => v = .bool true ∧ l' = l) := by
  refine calls_enter Try.func11 rfl rfl rfl hs ?_
  refine cd_sr ?_   -- 0
  refine ol_q (wn_none rfl) (op_assign (v := .bool _) rfl) rfl ?_
  refine ol_nil_then ?_
  refine cd_seq ?_
  refine cd_sr ?_   -- 1
  refine ol_i (wn_none rfl) (os_call cb_16 rfl (fun w s => mAlive_calls  s )) rfl ?_; rintro _ l ⟨rfl, rfl⟩
  refine ol_q (wn_none rfl) (op_not rfl) rfl ?_
  refine ol_nil_then ?_
  refine cd_cond_f rfl rfl ?_
  refine cd_skip ?_
  refine px_then ?_
  refine cd_seq ?_
  refine cd_sr ?_   -- 3
  refine ol_q (wn_none rfl) (op_move (v := .string _) rfl) rfl ?_
  refine ol_q (wn_none rfl) (op_len_string Try.underlying9 rfl) rfl ?_
  refine ol_q (wn_none rfl) (op_gt rfl rfl) rfl ?_
  refine ol_q (wn_none rfl) (op_move (v := .bool _) rfl) rfl ?_
  refine ol_split 13 rfl (fun hb1 => ?_) (fun hb1 => ?_)
  · have hp1 := hb1
    (try simp only [decide_eq_true_eq, decide_eq_false_iff_not, Bool.not_eq_true', Bool.not_eq_false', ne_eq, Decidable.not_not] at hp1)
    refine ol_skip (wn_some rfl rfl rfl hb1 rfl) rfl ?_
    refine ol_skip (wn_some rfl rfl rfl hb1 rfl) rfl ?_
    refine ol_skip (wn_some rfl rfl rfl hb1 rfl) rfl ?_
    refine ol_q (wn_none rfl) (op_pick_t (v := .bool _) rfl hb1 rfl) rfl ?_
    refine ol_nil_then ?_
    refine cd_cond_t rfl rfl ?_
    refine cd_sr ?_   -- 4
    refine ol_q (wn_none rfl) (op_assign (v := .bool _) rfl) rfl ?_
    refine ol_nil_then ?_
    refine cd_ret ?_
    refine px_thenR ?_
    exact px_ret1 rfl (v := .bool _) rfl (fun _ s => s) ⟨congrArg Value.bool (by first | rfl | (rw [List.flatten_cons, List.flatten_cons, List.flatten_nil, List.append_nil, List.take_append_drop]; simp; done) | simp), rfl⟩
  · have hp1 := hb1
    (try simp only [decide_eq_true_eq, decide_eq_false_iff_not, Bool.not_eq_true', Bool.not_eq_false', ne_eq, Decidable.not_not] at hp1)
    refine ol_q (wn_some rfl rfl rfl hb1 rfl) (op_move (v := .string _) rfl) rfl ?_
    refine ol_q (wn_some rfl rfl rfl hb1 rfl) (op_len_string Try.underlying9 rfl) rfl ?_
    refine ol_q (wn_some rfl rfl rfl hb1 rfl) (op_gt rfl rfl) rfl ?_
    refine ol_q (wn_none rfl) (op_pick_f (v := .bool _) rfl hb1 rfl) rfl ?_
    refine ol_nil_then ?_
    refine cd_cond rfl (fun hb2 => ?_) (fun hb2 => ?_)
    · have hp2 := hb2
      (try simp only [decide_eq_true_eq, decide_eq_false_iff_not, Bool.not_eq_true', Bool.not_eq_false', ne_eq, Decidable.not_not] at hp2)
      refine cd_sr ?_   -- 4
      refine ol_q (wn_none rfl) (op_assign (v := .bool _) rfl) rfl ?_
      refine ol_nil_then ?_
      refine cd_ret ?_
      refine px_thenR ?_
      exact px_ret1 rfl (v := .bool _) rfl (fun _ s => s) ⟨congrArg Value.bool (by first | rfl | (rw [List.flatten_cons, List.flatten_cons, List.flatten_nil, List.append_nil, List.take_append_drop]; simp; done) | simp), rfl⟩
    · have hp2 := hb2
      (try simp only [decide_eq_true_eq, decide_eq_false_iff_not, Bool.not_eq_true', Bool.not_eq_false', ne_eq, Decidable.not_not] at hp2)
      have hkl9 : key.length ≤ 200 := by omega
      have hsl : s.length ≤ 200 := by omega
      refine cd_skip ?_
      refine px_then ?_
      refine cd_sr ?_   -- 5
      refine ol_q (wn_none rfl) (op_move (v := .int _ _) rfl) rfl ?_
      refine ol_q (wn_none rfl) (op_max rfl rfl) rfl ?_
      refine ol_q (wn_none rfl) (op_move (v := .string _) rfl) rfl ?_
      refine ol_q (wn_none rfl) (op_len_string Try.underlying9 rfl) rfl ?_
      refine ol_q (wn_none rfl) (op_min rfl rfl) rfl ?_
      refine ol_q (wn_none rfl) (op_assign (v := .int _ _) rfl) rfl ?_
      refine ol_nil_then ?_
      obtain ⟨k, hkk, hkl⟩ : ∃ k : Nat, (if (s.length : Int) < (if n < 0 then 0 else n) then (s.length : Int) else (if n < 0 then 0 else n)) = (k : Int) ∧ k ≤ s.length := ⟨((if (s.length : Int) < (if n < 0 then 0 else n) then (s.length : Int) else (if n < 0 then 0 else n))).toNat, by split <;> split <;> omega, by split <;> split <;> omega⟩
      rw [hkk]
      refine cd_seq ?_   -- 6
      refine cd_drawe (M := []) mx [2, 3, 6, 16, 17, 20] ?_
      -- 0
      refine et_quiet 0 (by kernel_rfl) rfl (by kernel_rfl) (wn_none rfl) (op_move (v := .string _) rfl) rfl ?_
      -- 1
      refine et_quiet 1 (by kernel_rfl) rfl (by kernel_rfl) (wn_none rfl) (op_move (v := .string _) rfl) rfl ?_
      -- 4
      refine et_quiet 4 (by kernel_rfl) rfl (by kernel_rfl) (wn_none rfl) (op_move (v := .string _) rfl) rfl ?_
      -- 5
      refine et_quiet 5 (by kernel_rfl) rfl (by kernel_rfl) (wn_none rfl) (op_move (v := .string _) rfl) rfl ?_
      refine et_1 (i := 2) (by kernel_rfl) ?_
      refine ei_i rfl rfl (wn_none rfl) (os_bslice (E := encStr) [_] (ys := [_]) sB_24 zv_9 rfl rfl rfl rfl (by decide)) rfl ?_; rintro _ _ ⟨ao1, rfl, rfl⟩; refine ⟨[_], rfl, ?_⟩
      refine et_1 (i := 3) (by kernel_rfl) ?_
      refine ei_i rfl rfl (wn_none rfl) (os_call cb_17 rfl (fun w s => Mac_calls _ _ _ _  s (rds_row 0 rfl rfl) (by first | omega | (simp; done) | (simp; omega)) (by first | omega | (simp; done) | (simp; omega)) (by first | omega | (simp; done) | (simp; omega)))) rfl ?_; rintro _ l ⟨rfl, rfl⟩; refine ⟨[_], rfl, ?_⟩
      refine et_1 (i := 6) (by kernel_rfl) ?_
      refine ei_i rfl rfl (wn_none rfl) (os_call cb_23 rfl (fun w s => RMac_calls _ _  s (by omega) (by omega))) rfl ?_; rintro _ l ⟨rfl, rfl⟩; refine ⟨[_], rfl, ?_⟩
      -- 7
      refine et_quiet 7 (by kernel_rfl) rfl (by kernel_rfl) (wn_none rfl) (op_eqtag _ _ tB_34 rfl rfl) rfl ?_
      -- 8
      refine et_quiet 8 (by kernel_rfl) rfl (by kernel_rfl) (wn_none rfl) (op_move (v := .bool _) rfl) rfl ?_
      refine et_split 31 rfl (fun hb3 => ?_) (fun hb3 => ?_)
      · have hp3 := hb3
        (try simp only [decide_eq_true_eq, decide_eq_false_iff_not, Bool.not_eq_true', Bool.not_eq_false', ne_eq, Decidable.not_not] at hp3)
        -- 9
        refine et_quiet 9 (by kernel_rfl) rfl (by kernel_rfl) (wn_some rfl rfl rfl hb3 rfl) (op_move (v := .string _) rfl) rfl ?_
        -- 10
        refine et_quiet 10 (by kernel_rfl) rfl (by kernel_rfl) (wn_some rfl rfl rfl hb3 rfl) (op_move (v := .string _) rfl) rfl ?_
        -- 11
        refine et_quiet 11 (by kernel_rfl) rfl (by kernel_rfl) (wn_some rfl rfl rfl hb3 rfl) (op_move (v := .int _ _) rfl) rfl ?_
        -- 12
        refine et_quiet 12 (by kernel_rfl) rfl (by kernel_rfl) (wn_some rfl rfl rfl hb3 rfl) (op_sslice_to _ Try.underlying9 rfl rfl rfl (by omega)) rfl ?_
        -- 13
        refine et_quiet 13 (by kernel_rfl) rfl (by kernel_rfl) (wn_some rfl rfl rfl hb3 rfl) (op_move (v := .string _) rfl) rfl ?_
        -- 14
        refine et_quiet 14 (by kernel_rfl) rfl (by kernel_rfl) (wn_some rfl rfl rfl hb3 rfl) (op_move (v := .int _ _) rfl) rfl ?_
        -- 15
        refine et_quiet 15 (by kernel_rfl) rfl (by kernel_rfl) (wn_some rfl rfl rfl hb3 rfl) (op_sslice_from _ Try.underlying9 rfl rfl rfl (by omega)) rfl ?_
        -- 18
        refine et_quiet 18 (by kernel_rfl) rfl (by kernel_rfl) (wn_some rfl rfl rfl hb3 rfl) (op_move (v := .string _) rfl) rfl ?_
        -- 19
        refine et_quiet 19 (by kernel_rfl) rfl (by kernel_rfl) (wn_some rfl rfl rfl hb3 rfl) (op_move (v := .string _) rfl) rfl ?_
        refine et_1 (i := 16) (by kernel_rfl) ?_
        refine ei_i rfl rfl (wn_some rfl rfl rfl hb3 rfl) (os_bslice (E := encStr) [_, _] (ys := [_, _]) sB_24 zv_9 rfl rfl rfl rfl (by decide)) rfl ?_; rintro _ _ ⟨ao2, rfl, rfl⟩; refine ⟨[_, _], rfl, ?_⟩
        refine et_1 (i := 17) (by kernel_rfl) ?_
        refine ei_i rfl rfl (wn_some rfl rfl rfl hb3 rfl) (os_call cb_17 rfl (fun w s => Mac_calls _ _ _ _  s (rds_row 0 rfl rfl) (by rw [List.flatten_cons, List.flatten_cons, List.flatten_nil, List.append_nil, List.take_append_drop]; omega) (by first | omega | (simp; done) | (simp; omega)) (by first | omega | (simp; done) | (simp; omega)))) rfl ?_; rintro _ l ⟨rfl, rfl⟩; refine ⟨[_, _], rfl, ?_⟩
        refine et_1 (i := 20) (by kernel_rfl) ?_
        refine ei_i rfl rfl (wn_some rfl rfl rfl hb3 rfl) (os_call cb_23 rfl (fun w s => RMac_calls _ _  s (by omega) (by omega))) rfl ?_; rintro _ l ⟨rfl, rfl⟩; refine ⟨[_, _], rfl, ?_⟩
        -- 21
        refine et_quiet 21 (by kernel_rfl) rfl (by kernel_rfl) (wn_some rfl rfl rfl hb3 rfl) (op_eqtag _ _ tB_34 rfl rfl) rfl ?_
        -- 22
        refine et_quiet 22 (by kernel_rfl) rfl (by kernel_rfl) (wn_none rfl) (op_pick_t (v := .bool _) rfl hb3 rfl) rfl ?_
        -- 23
        refine et_quiet 23 (by kernel_rfl) rfl (by kernel_rfl) (wn_none rfl) (op_assign (v := .bool _) rfl) rfl ?_
        refine et_nil_then (by kernel_rfl) ?_
        refine cd_ret ?_
        exact px_ret1 rfl (v := .bool _) rfl (fun _ s => ((s.del 1).del 0)) ⟨congrArg Value.bool (by first | rfl | (rw [List.flatten_cons, List.flatten_cons, List.flatten_nil, List.append_nil, List.take_append_drop]; simp; done) | simp), rfl⟩
      · have hp3 := hb3
        (try simp only [decide_eq_true_eq, decide_eq_false_iff_not, Bool.not_eq_true', Bool.not_eq_false', ne_eq, Decidable.not_not] at hp3)
        exact absurd hb3 (by simp)
end Go.SL

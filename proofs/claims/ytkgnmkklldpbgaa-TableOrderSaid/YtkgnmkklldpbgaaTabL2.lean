import Derived.Test.YtkgnmkklldpbgaaTabL
set_option linter.unusedVariables false
set_option linter.unusedSimpArgs false
namespace Go.SL
open Go.Proofs

def befV (k : Nat) (t : TabS) : List Vote := (List.range k).map fun w : Nat => (t.vote (w : Int)).getD Vote.zero
def befC (k : Nat) (t : TabS) : List Bool := (List.range k).map fun w : Nat => t.counts (w : Int)
theorem befV_succ (k : Nat) (t : TabS) : befV (k + 1) t = befV k t ++ [(t.vote (k : Int)).getD Vote.zero] := by simp [befV, List.range_succ]
theorem befC_succ (k : Nat) (t : TabS) : befC (k + 1) t = befC k t ++ [t.counts (k : Int)] := by simp [befC, List.range_succ]
theorem befV_len (k : Nat) (t : TabS) : (befV k t).length = k := by simp [befV]
theorem befC_len (k : Nat) (t : TabS) : (befC k t).length = k := by simp [befC]
theorem befV_get (k : Nat) (t : TabS) (i : Nat) (h : i < (befV k t).length) : (befV k t)[i] = (t.vote (i : Int)).getD Vote.zero := by simp [befV]
theorem befC_get (k : Nat) (t : TabS) (i : Nat) (h : i < (befC k t).length) : (befC k t)[i] = t.counts (i : Int) := by simp [befC]
def voteOf (c : TCall) : Vote := ⟨c.who, c.slot, nameR c.nr⟩
theorem take_all_succ (xs : List TCall) (t : TabS) (i : Nat) (h : i < xs.length) : t.all ((xs.map voteOf).take (i + 1)) = ((t.all ((xs.map voteOf).take i)).take (voteOf xs[i])).2 := by
  rw [List.take_add_one, List.getElem?_eq_getElem (by simpa using h), Option.toList_some, TabS.all_append, List.getElem_map]
  rfl
theorem turned_all_succ (xs : List TCall) (t : TabS) (k i : Nat) (hj : turned xs k i < xs.length) : t.all (turnedTo (xs.map voteOf) k (i + 1)) = ((t.all (turnedTo (xs.map voteOf) k i)).take (voteOf xs[turned xs k i])).2 := by
  have e : turned (xs.map voteOf) k i = turned xs k i := by unfold turned; rw [List.length_map]
  rw [turnedTo_succ, TabS.all_append, e, List.getD_eq_getElem?_getD, List.getElem?_eq_getElem (by simpa using hj), Option.getD_some, List.getElem_map]
  rfl
theorem order_alike (xs : List TCall) (k : Nat) {n : Nat} {sl : Int} (hn : n ≤ 64) (h1 : 1 ≤ sl) (h2 : sl ≤ 32) (hk : k < xs.length) (w : Int) :
    ((TabS.new n sl).all ((xs.map voteOf).take xs.length)).counts w = ((TabS.new n sl).all (turnedTo (xs.map voteOf) k xs.length)).counts w ∧
    (((TabS.new n sl).all ((xs.map voteOf).take xs.length)).vote w).isSome = (((TabS.new n sl).all (turnedTo (xs.map voteOf) k xs.length)).vote w).isSome ∧
    (((TabS.new n sl).all ((xs.map voteOf).take xs.length)).counts w = true → ∀ y y', ((TabS.new n sl).all ((xs.map voteOf).take xs.length)).vote w = some y → ((TabS.new n sl).all (turnedTo (xs.map voteOf) k xs.length)).vote w = some y' → y.slot / sl = y'.slot / sl ∧ y.target = y'.target) := by
  have ha := (TabS.Sees.new hn h1 h2).all ((xs.map voteOf).take xs.length)
  have hb := (TabS.Sees.new hn h1 h2).all (turnedTo (xs.map voteOf) k xs.length)
  have sa := (TabS.new n sl).all_slots ((xs.map voteOf).take xs.length)
  have sb := (TabS.new n sl).all_slots (turnedTo (xs.map voteOf) k xs.length)
  have hl : (xs.map voteOf).length = xs.length := List.length_map ..
  have := ha.alike hb (sa.1.trans sb.1.symm) (sa.2.trans sb.2.symm) (fun x => by
    simp only [List.nil_append]
    rw [← hl, List.take_length]
    exact (turnedTo_mem _ _ (by rw [hl]; exact hk) x).symm) w
  rw [sa.1] at this
  exact this

set_option maxRecDepth 100000 in
set_option maxHeartbeats 1000000 in
theorem TableForgets_calls {w0 w : World} {l : List HProp} (sl : Int) (ao : Option Addr) (c : Nat) (xs : List TCall) (at_ more : Int) (hs : Sat w0 w (l)) (hr : Rds w0 l encTCall ao xs) (hq : ∀ a ∈ xs, I64 a.who ∧ I64 a.slot ∧ I64 a.nr) :
    Calls Try.prog 9 #[.int .i64 sl, .slice ao xs.length c, .int .i64 at_, .int .i64 more] w (Ret w0 fun v l' => v = .bool true ∧ l' = l) := by
  refine calls_enter Try.func9 rfl rfl rfl hs ?_
  refine cd_sr ?_   -- 0
  refine ol_q (wn_none rfl) (op_assign (v := .bool _) rfl) rfl ?_
  refine ol_nil_then ?_
  refine cd_seq ?_
  refine cd_sr ?_   -- 1
  refine ol_i (wn_none rfl) (os_call cb_15 rfl (fun w s => tabAlive_calls  s )) rfl ?_; rintro _ l ⟨rfl, rfl⟩
  refine ol_q (wn_none rfl) (op_not rfl) rfl ?_
  refine ol_nil_then ?_
  refine cd_cond_f rfl rfl ?_
  refine cd_skip ?_
  refine px_then ?_
  refine cd_seq ?_
  refine cd_sr ?_   -- 3
  refine ol_q (wn_none rfl) (op_move (v := .slice _ _ _) rfl) rfl ?_
  refine ol_q (wn_none rfl) (op_len_slice Try.underlying22 rfl) rfl ?_
  refine ol_q (wn_none rfl) (op_gt rfl rfl) rfl ?_
  refine ol_q (wn_none rfl) (op_move (v := .bool _) rfl) rfl ?_
  refine ol_split 28 rfl (fun hb1 => ?_) (fun hb1 => ?_)
  · have hp1 := hb1
    (try simp only [decide_eq_true_eq, decide_eq_false_iff_not, Bool.not_eq_true', Bool.not_eq_false', ne_eq, Decidable.not_not] at hp1)
    refine ol_skip (wn_some rfl rfl rfl hb1 rfl) rfl ?_
    refine ol_skip (wn_some rfl rfl rfl hb1 rfl) rfl ?_
    refine ol_q (wn_none rfl) (op_pick_t (v := .bool _) rfl hb1 rfl) rfl ?_
    refine ol_q (wn_none rfl) (op_move (v := .bool _) rfl) rfl ?_
    refine ol_skip (wn_some rfl rfl rfl rfl rfl) rfl ?_
    refine ol_skip (wn_some rfl rfl rfl rfl rfl) rfl ?_
    refine ol_q (wn_none rfl) (op_pick_t (v := .bool _) rfl rfl rfl) rfl ?_
    refine ol_q (wn_none rfl) (op_move (v := .bool _) rfl) rfl ?_
    refine ol_skip (wn_some rfl rfl rfl rfl rfl) rfl ?_
    refine ol_skip (wn_some rfl rfl rfl rfl rfl) rfl ?_
    refine ol_q (wn_none rfl) (op_pick_t (v := .bool _) rfl rfl rfl) rfl ?_
    refine ol_q (wn_none rfl) (op_move (v := .bool _) rfl) rfl ?_
    refine ol_skip (wn_some rfl rfl rfl rfl rfl) rfl ?_
    refine ol_skip (wn_some rfl rfl rfl rfl rfl) rfl ?_
    refine ol_q (wn_none rfl) (op_pick_t (v := .bool _) rfl rfl rfl) rfl ?_
    refine ol_nil_then ?_
    refine cd_cond_t rfl rfl ?_
    refine cd_sr ?_   -- 4
    refine ol_q (wn_none rfl) (op_assign (v := .bool _) rfl) rfl ?_
    refine ol_nil_then ?_
    refine cd_ret ?_
    refine px_thenR ?_
    exact px_ret1 rfl (v := .bool _) rfl (fun _ s => s) ⟨congrArg Value.bool (by first | rfl | (simp; omega)), rfl⟩
  · have hp1 := hb1
    (try simp only [decide_eq_true_eq, decide_eq_false_iff_not, Bool.not_eq_true', Bool.not_eq_false', ne_eq, Decidable.not_not] at hp1)
    refine ol_q (wn_some rfl rfl rfl hb1 rfl) (op_move (v := .int _ _) rfl) rfl ?_
    refine ol_q (wn_some rfl rfl rfl hb1 rfl) (op_lt rfl rfl) rfl ?_
    refine ol_q (wn_none rfl) (op_pick_f (v := .bool _) rfl hb1 rfl) rfl ?_
    refine ol_q (wn_none rfl) (op_move (v := .bool _) rfl) rfl ?_
    refine ol_split 32 rfl (fun hb2 => ?_) (fun hb2 => ?_)
    · have hp2 := hb2
      (try simp only [decide_eq_true_eq, decide_eq_false_iff_not, Bool.not_eq_true', Bool.not_eq_false', ne_eq, Decidable.not_not] at hp2)
      refine ol_skip (wn_some rfl rfl rfl hb2 rfl) rfl ?_
      refine ol_skip (wn_some rfl rfl rfl hb2 rfl) rfl ?_
      refine ol_q (wn_none rfl) (op_pick_t (v := .bool _) rfl hb2 rfl) rfl ?_
      refine ol_q (wn_none rfl) (op_move (v := .bool _) rfl) rfl ?_
      refine ol_skip (wn_some rfl rfl rfl rfl rfl) rfl ?_
      refine ol_skip (wn_some rfl rfl rfl rfl rfl) rfl ?_
      refine ol_q (wn_none rfl) (op_pick_t (v := .bool _) rfl rfl rfl) rfl ?_
      refine ol_q (wn_none rfl) (op_move (v := .bool _) rfl) rfl ?_
      refine ol_skip (wn_some rfl rfl rfl rfl rfl) rfl ?_
      refine ol_skip (wn_some rfl rfl rfl rfl rfl) rfl ?_
      refine ol_q (wn_none rfl) (op_pick_t (v := .bool _) rfl rfl rfl) rfl ?_
      refine ol_nil_then ?_
      refine cd_cond_t rfl rfl ?_
      refine cd_sr ?_   -- 4
      refine ol_q (wn_none rfl) (op_assign (v := .bool _) rfl) rfl ?_
      refine ol_nil_then ?_
      refine cd_ret ?_
      refine px_thenR ?_
      exact px_ret1 rfl (v := .bool _) rfl (fun _ s => s) ⟨congrArg Value.bool (by first | rfl | (simp; omega)), rfl⟩
    · have hp2 := hb2
      (try simp only [decide_eq_true_eq, decide_eq_false_iff_not, Bool.not_eq_true', Bool.not_eq_false', ne_eq, Decidable.not_not] at hp2)
      refine ol_q (wn_some rfl rfl rfl hb2 rfl) (op_move (v := .int _ _) rfl) rfl ?_
      refine ol_q (wn_some rfl rfl rfl hb2 rfl) (op_lt rfl rfl) rfl ?_
      refine ol_q (wn_none rfl) (op_pick_f (v := .bool _) rfl hb2 rfl) rfl ?_
      refine ol_q (wn_none rfl) (op_move (v := .bool _) rfl) rfl ?_
      refine ol_split 36 rfl (fun hb3 => ?_) (fun hb3 => ?_)
      · have hp3 := hb3
        (try simp only [decide_eq_true_eq, decide_eq_false_iff_not, Bool.not_eq_true', Bool.not_eq_false', ne_eq, Decidable.not_not] at hp3)
        refine ol_skip (wn_some rfl rfl rfl hb3 rfl) rfl ?_
        refine ol_skip (wn_some rfl rfl rfl hb3 rfl) rfl ?_
        refine ol_q (wn_none rfl) (op_pick_t (v := .bool _) rfl hb3 rfl) rfl ?_
        refine ol_q (wn_none rfl) (op_move (v := .bool _) rfl) rfl ?_
        refine ol_skip (wn_some rfl rfl rfl rfl rfl) rfl ?_
        refine ol_skip (wn_some rfl rfl rfl rfl rfl) rfl ?_
        refine ol_q (wn_none rfl) (op_pick_t (v := .bool _) rfl rfl rfl) rfl ?_
        refine ol_nil_then ?_
        refine cd_cond_t rfl rfl ?_
        refine cd_sr ?_   -- 4
        refine ol_q (wn_none rfl) (op_assign (v := .bool _) rfl) rfl ?_
        refine ol_nil_then ?_
        refine cd_ret ?_
        refine px_thenR ?_
        exact px_ret1 rfl (v := .bool _) rfl (fun _ s => s) ⟨congrArg Value.bool (by first | rfl | (simp; omega)), rfl⟩
      · have hp3 := hb3
        (try simp only [decide_eq_true_eq, decide_eq_false_iff_not, Bool.not_eq_true', Bool.not_eq_false', ne_eq, Decidable.not_not] at hp3)
        refine ol_q (wn_some rfl rfl rfl hb3 rfl) (op_move (v := .int _ _) rfl) rfl ?_
        refine ol_q (wn_some rfl rfl rfl hb3 rfl) (op_gt rfl rfl) rfl ?_
        refine ol_q (wn_none rfl) (op_pick_f (v := .bool _) rfl hb3 rfl) rfl ?_
        refine ol_q (wn_none rfl) (op_move (v := .bool _) rfl) rfl ?_
        refine ol_split 40 rfl (fun hb4 => ?_) (fun hb4 => ?_)
        · have hp4 := hb4
          (try simp only [decide_eq_true_eq, decide_eq_false_iff_not, Bool.not_eq_true', Bool.not_eq_false', ne_eq, Decidable.not_not] at hp4)
          refine ol_skip (wn_some rfl rfl rfl hb4 rfl) rfl ?_
          refine ol_skip (wn_some rfl rfl rfl hb4 rfl) rfl ?_
          refine ol_q (wn_none rfl) (op_pick_t (v := .bool _) rfl hb4 rfl) rfl ?_
          refine ol_nil_then ?_
          refine cd_cond_t rfl rfl ?_
          refine cd_sr ?_   -- 4
          refine ol_q (wn_none rfl) (op_assign (v := .bool _) rfl) rfl ?_
          refine ol_nil_then ?_
          refine cd_ret ?_
          refine px_thenR ?_
          exact px_ret1 rfl (v := .bool _) rfl (fun _ s => s) ⟨congrArg Value.bool (by first | rfl | (simp; omega)), rfl⟩
        · have hp4 := hb4
          (try simp only [decide_eq_true_eq, decide_eq_false_iff_not, Bool.not_eq_true', Bool.not_eq_false', ne_eq, Decidable.not_not] at hp4)
          refine ol_q (wn_some rfl rfl rfl hb4 rfl) (op_move (v := .int _ _) rfl) rfl ?_
          refine ol_q (wn_some rfl rfl rfl hb4 rfl) (op_gt rfl rfl) rfl ?_
          refine ol_q (wn_none rfl) (op_pick_f (v := .bool _) rfl hb4 rfl) rfl ?_
          refine ol_nil_then ?_
          refine cd_cond rfl (fun hb5 => ?_) (fun hb5 => ?_)
          · have hp5 := hb5
            (try simp only [decide_eq_true_eq, decide_eq_false_iff_not, Bool.not_eq_true', Bool.not_eq_false', ne_eq, Decidable.not_not] at hp5)
            refine cd_sr ?_   -- 4
            refine ol_q (wn_none rfl) (op_assign (v := .bool _) rfl) rfl ?_
            refine ol_nil_then ?_
            refine cd_ret ?_
            refine px_thenR ?_
            exact px_ret1 rfl (v := .bool _) rfl (fun _ s => s) ⟨congrArg Value.bool (by first | rfl | (simp; omega)), rfl⟩
          · have hp5 := hb5
            (try simp only [decide_eq_true_eq, decide_eq_false_iff_not, Bool.not_eq_true', Bool.not_eq_false', ne_eq, Decidable.not_not] at hp5)
            refine cd_skip ?_
            refine px_then ?_
            refine cd_sr ?_   -- 5
            refine ol_q (wn_none rfl) (op_move (v := .int _ _) rfl) rfl ?_
            refine ol_i (wn_none rfl) (os_call cb_16 rfl (fun w s => New_calls _ _ s)) rfl ?_; rintro _ l2 (⟨rfl, hl2, hbad1⟩ | ⟨p1, rfl, hok1, rfl⟩)
            · rw [hl2]
              refine ol_q (wn_none rfl) (op_move (v := .int _ _) rfl) rfl ?_
              refine ol_q (wn_none rfl) (op_ge rfl rfl) rfl ?_
              refine ol_q (wn_none rfl) (op_move (v := .bool _) rfl) rfl ?_
              refine ol_split 48 rfl (fun hb6 => ?_) (fun hb6 => ?_)
              · have hp6 := hb6
                (try simp only [decide_eq_true_eq, decide_eq_false_iff_not, Bool.not_eq_true', Bool.not_eq_false', ne_eq, Decidable.not_not] at hp6)
                refine ol_q (wn_some rfl rfl rfl hb6 rfl) (op_move (v := .int _ _) rfl) rfl ?_
                refine ol_q (wn_some rfl rfl rfl hb6 rfl) (op_le rfl rfl) rfl ?_
                refine ol_q (wn_none rfl) (op_pick_t (v := .bool _) rfl hb6 rfl) rfl ?_
                refine ol_q (wn_none rfl) (op_assign (v := .pointer _) rfl) rfl ?_
                refine ol_q (wn_none rfl) (op_assign (v := .bool _) rfl) rfl ?_
                refine ol_nil_then ?_
                refine cd_seq ?_
                refine cd_sr ?_   -- 6
                refine ol_q (wn_none rfl) (op_move (v := .bool _) rfl) rfl ?_
                refine ol_q (wn_none rfl) (op_not rfl) rfl ?_
                refine ol_q (wn_none rfl) (op_move (v := .bool _) rfl) rfl ?_
                refine ol_split 54 rfl (fun hb7 => ?_) (fun hb7 => ?_)
                · have hp7 := hb7
                  (try simp only [decide_eq_true_eq, decide_eq_false_iff_not, Bool.not_eq_true', Bool.not_eq_false', ne_eq, Decidable.not_not] at hp7)
                  refine ol_skip (wn_some rfl rfl rfl hb7 rfl) rfl ?_
                  refine ol_skip (wn_some rfl rfl rfl hb7 rfl) rfl ?_
                  refine ol_q (wn_none rfl) (op_pick_t (v := .bool _) rfl hb7 rfl) rfl ?_
                  refine ol_nil_then ?_
                  refine cd_cond_t rfl rfl ?_
                  refine cd_sr ?_   -- 7
                  refine ol_q (wn_none rfl) (op_move (v := .bool _) rfl) rfl ?_
                  refine ol_q (wn_none rfl) (op_not rfl) rfl ?_
                  refine ol_q (wn_none rfl) (op_move (v := .bool _) rfl) rfl ?_
                  refine ol_split 60 rfl (fun hb8 => ?_) (fun hb8 => ?_)
                  · have hp8 := hb8
                    (try simp only [decide_eq_true_eq, decide_eq_false_iff_not, Bool.not_eq_true', Bool.not_eq_false', ne_eq, Decidable.not_not] at hp8)
                    refine ol_q (wn_some rfl rfl rfl hb8 rfl) (op_move (v := .pointer _) rfl) rfl ?_
                    refine ol_q (wn_some rfl rfl rfl hb8 rfl) (op_eqnil Try.underlying24 rfl rfl) rfl ?_
                    refine ol_q (wn_none rfl) (op_pick_t (v := .bool _) rfl hb8 rfl) rfl ?_
                    refine ol_q (wn_none rfl) (op_assign (v := .bool _) rfl) rfl ?_
                    refine ol_nil_then ?_
                    refine cd_ret ?_
                    refine px_thenR ?_
                    exact px_ret1 rfl (v := .bool _) rfl (fun _ s => s) ⟨congrArg Value.bool (by first | rfl | (simp; omega)), rfl⟩
                  · have hp8 := hb8
                    (try simp only [decide_eq_true_eq, decide_eq_false_iff_not, Bool.not_eq_true', Bool.not_eq_false', ne_eq, Decidable.not_not] at hp8)
                    exfalso; revert hb8; simp; omega
                · have hp7 := hb7
                  (try simp only [decide_eq_true_eq, decide_eq_false_iff_not, Bool.not_eq_true', Bool.not_eq_false', ne_eq, Decidable.not_not] at hp7)
                  refine ol_q (wn_some rfl rfl rfl hb7 rfl) (op_move (v := .pointer _) rfl) rfl ?_
                  refine ol_q (wn_some rfl rfl rfl hb7 rfl) (op_eqnil Try.underlying24 rfl rfl) rfl ?_
                  refine ol_q (wn_none rfl) (op_pick_f (v := .bool _) rfl hb7 rfl) rfl ?_
                  refine ol_nil_then ?_
                  refine cd_cond_t rfl rfl ?_
                  refine cd_sr ?_   -- 7
                  refine ol_q (wn_none rfl) (op_move (v := .bool _) rfl) rfl ?_
                  refine ol_q (wn_none rfl) (op_not rfl) rfl ?_
                  refine ol_q (wn_none rfl) (op_move (v := .bool _) rfl) rfl ?_
                  refine ol_split 60 rfl (fun hb9 => ?_) (fun hb9 => ?_)
                  · have hp9 := hb9
                    (try simp only [decide_eq_true_eq, decide_eq_false_iff_not, Bool.not_eq_true', Bool.not_eq_false', ne_eq, Decidable.not_not] at hp9)
                    refine ol_q (wn_some rfl rfl rfl hb9 rfl) (op_move (v := .pointer _) rfl) rfl ?_
                    refine ol_q (wn_some rfl rfl rfl hb9 rfl) (op_eqnil Try.underlying24 rfl rfl) rfl ?_
                    refine ol_q (wn_none rfl) (op_pick_t (v := .bool _) rfl hb9 rfl) rfl ?_
                    refine ol_q (wn_none rfl) (op_assign (v := .bool _) rfl) rfl ?_
                    refine ol_nil_then ?_
                    refine cd_ret ?_
                    refine px_thenR ?_
                    exact px_ret1 rfl (v := .bool _) rfl (fun _ s => s) ⟨congrArg Value.bool (by first | rfl | (simp; omega)), rfl⟩
                  · have hp9 := hb9
                    (try simp only [decide_eq_true_eq, decide_eq_false_iff_not, Bool.not_eq_true', Bool.not_eq_false', ne_eq, Decidable.not_not] at hp9)
                    exfalso; revert hb9; simp; omega
              · have hp6 := hb6
                (try simp only [decide_eq_true_eq, decide_eq_false_iff_not, Bool.not_eq_true', Bool.not_eq_false', ne_eq, Decidable.not_not] at hp6)
                refine ol_skip (wn_some rfl rfl rfl hb6 rfl) rfl ?_
                refine ol_skip (wn_some rfl rfl rfl hb6 rfl) rfl ?_
                refine ol_q (wn_none rfl) (op_pick_f (v := .bool _) rfl hb6 rfl) rfl ?_
                refine ol_q (wn_none rfl) (op_assign (v := .pointer _) rfl) rfl ?_
                refine ol_q (wn_none rfl) (op_assign (v := .bool _) rfl) rfl ?_
                refine ol_nil_then ?_
                refine cd_seq ?_
                refine cd_sr ?_   -- 6
                refine ol_q (wn_none rfl) (op_move (v := .bool _) rfl) rfl ?_
                refine ol_q (wn_none rfl) (op_not rfl) rfl ?_
                refine ol_q (wn_none rfl) (op_move (v := .bool _) rfl) rfl ?_
                refine ol_skip (wn_some rfl rfl rfl rfl rfl) rfl ?_
                refine ol_skip (wn_some rfl rfl rfl rfl rfl) rfl ?_
                refine ol_q (wn_none rfl) (op_pick_t (v := .bool _) rfl rfl rfl) rfl ?_
                refine ol_nil_then ?_
                refine cd_cond_t rfl rfl ?_
                refine cd_sr ?_   -- 7
                refine ol_q (wn_none rfl) (op_move (v := .bool _) rfl) rfl ?_
                refine ol_q (wn_none rfl) (op_not rfl) rfl ?_
                refine ol_q (wn_none rfl) (op_move (v := .bool _) rfl) rfl ?_
                refine ol_q (wn_some rfl rfl rfl rfl rfl) (op_move (v := .pointer _) rfl) rfl ?_
                refine ol_q (wn_some rfl rfl rfl rfl rfl) (op_eqnil Try.underlying24 rfl rfl) rfl ?_
                refine ol_q (wn_none rfl) (op_pick_t (v := .bool _) rfl rfl rfl) rfl ?_
                refine ol_q (wn_none rfl) (op_assign (v := .bool _) rfl) rfl ?_
                refine ol_nil_then ?_
                refine cd_ret ?_
                refine px_thenR ?_
                exact px_ret1 rfl (v := .bool _) rfl (fun _ s => s) ⟨congrArg Value.bool (by first | rfl | (simp; omega)), rfl⟩
            · have hob1 := hok1
              refine ol_q (wn_none rfl) (op_move (v := .int _ _) rfl) rfl ?_
              refine ol_q (wn_none rfl) (op_ge rfl rfl) rfl ?_
              refine ol_q (wn_none rfl) (op_move (v := .bool _) rfl) rfl ?_
              refine ol_split 48 rfl (fun hb10 => ?_) (fun hb10 => ?_)
              · have hp10 := hb10
                (try simp only [decide_eq_true_eq, decide_eq_false_iff_not, Bool.not_eq_true', Bool.not_eq_false', ne_eq, Decidable.not_not] at hp10)
                refine ol_q (wn_some rfl rfl rfl hb10 rfl) (op_move (v := .int _ _) rfl) rfl ?_
                refine ol_q (wn_some rfl rfl rfl hb10 rfl) (op_le rfl rfl) rfl ?_
                refine ol_q (wn_none rfl) (op_pick_t (v := .bool _) rfl hb10 rfl) rfl ?_
                refine ol_q (wn_none rfl) (op_assign (v := .pointer _) rfl) rfl ?_
                refine ol_q (wn_none rfl) (op_assign (v := .bool _) rfl) rfl ?_
                refine ol_nil_then ?_
                refine cd_seq ?_
                refine cd_sr ?_   -- 6
                refine ol_q (wn_none rfl) (op_move (v := .bool _) rfl) rfl ?_
                refine ol_q (wn_none rfl) (op_not rfl) rfl ?_
                refine ol_q (wn_none rfl) (op_move (v := .bool _) rfl) rfl ?_
                refine ol_split 54 rfl (fun hb11 => ?_) (fun hb11 => ?_)
                · have hp11 := hb11
                  (try simp only [decide_eq_true_eq, decide_eq_false_iff_not, Bool.not_eq_true', Bool.not_eq_false', ne_eq, Decidable.not_not] at hp11)
                  refine ol_skip (wn_some rfl rfl rfl hb11 rfl) rfl ?_
                  refine ol_skip (wn_some rfl rfl rfl hb11 rfl) rfl ?_
                  refine ol_q (wn_none rfl) (op_pick_t (v := .bool _) rfl hb11 rfl) rfl ?_
                  refine ol_nil_then ?_
                  refine cd_cond_t rfl rfl ?_
                  refine cd_sr ?_   -- 7
                  refine ol_q (wn_none rfl) (op_move (v := .bool _) rfl) rfl ?_
                  refine ol_q (wn_none rfl) (op_not rfl) rfl ?_
                  refine ol_q (wn_none rfl) (op_move (v := .bool _) rfl) rfl ?_
                  refine ol_split 60 rfl (fun hb12 => ?_) (fun hb12 => ?_)
                  · have hp12 := hb12
                    (try simp only [decide_eq_true_eq, decide_eq_false_iff_not, Bool.not_eq_true', Bool.not_eq_false', ne_eq, Decidable.not_not] at hp12)
                    refine ol_q (wn_some rfl rfl rfl hb12 rfl) (op_move (v := .pointer _) rfl) rfl ?_
                    refine ol_q (wn_some rfl rfl rfl hb12 rfl) (op_eqnil Try.underlying24 rfl rfl) rfl ?_
                    refine ol_q (wn_none rfl) (op_pick_t (v := .bool _) rfl hb12 rfl) rfl ?_
                    refine ol_q (wn_none rfl) (op_assign (v := .bool _) rfl) rfl ?_
                    refine ol_nil_then ?_
                    refine cd_ret ?_
                    refine px_thenR ?_
                    exact px_ret1 rfl (v := .bool _) rfl (fun _ s => (s.del 0)) ⟨congrArg Value.bool (by first | rfl | (simp; omega)), rfl⟩
                  · have hp12 := hb12
                    (try simp only [decide_eq_true_eq, decide_eq_false_iff_not, Bool.not_eq_true', Bool.not_eq_false', ne_eq, Decidable.not_not] at hp12)
                    exfalso; revert hb12; simp; omega
                · have hp11 := hb11
                  (try simp only [decide_eq_true_eq, decide_eq_false_iff_not, Bool.not_eq_true', Bool.not_eq_false', ne_eq, Decidable.not_not] at hp11)
                  refine ol_q (wn_some rfl rfl rfl hb11 rfl) (op_move (v := .pointer _) rfl) rfl ?_
                  refine ol_q (wn_some rfl rfl rfl hb11 rfl) (op_eqnil Try.underlying24 rfl rfl) rfl ?_
                  refine ol_q (wn_none rfl) (op_pick_f (v := .bool _) rfl hb11 rfl) rfl ?_
                  refine ol_nil_then ?_
                  refine cd_cond_f rfl rfl ?_
                  refine cd_skip ?_
                  refine px_then ?_
                  refine cd_seq ?_
                  refine cd_sr ?_   -- 8
                  refine ol_q (wn_none rfl) (op_move (v := .slice _ _ _) rfl) rfl ?_
                  refine ol_q (wn_none rfl) (op_len_slice Try.underlying22 rfl) rfl ?_
                  refine ol_q (wn_none rfl) (op_move (v := .int _ _) rfl) rfl ?_
                  refine ol_nil_then ?_
                  refine cd_block ?_
                  refine cd_loop2 (α := Nat × TabS) [(12, 12), (66, 77)] (fun x => [(66, .int .i64 (x.1 : Int))]) (fun x => TabObj p1 x.2 :: l) (fun x => x.1 ≤ xs.length) (fun x => xs.length - x.1) (0, TabS.new (8 : Int).toNat sl) (Nat.zero_le _) ⟨rfl, trivial⟩ (fun _ s => s) ?_
                  rintro ⟨i, t⟩ hi f; (try dsimp only at hi ⊢)
                  refine cd_sr ?_   -- 9
                  refine ol_q (wn_none rfl) (op_lt rfl rfl) rfl ?_
                  refine ol_nil_then ?_
                  refine cd_seq ?_
                  refine cd_cond rfl (fun hb13 => ?_) (fun hb13 => ?_)
                  · have hp13 := hb13
                    (try simp only [decide_eq_true_eq, decide_eq_false_iff_not, Bool.not_eq_true', Bool.not_eq_false', ne_eq, Decidable.not_not] at hp13)
                    have hqi := hq _ (List.getElem_mem (show i < xs.length by omega)); unfold I64 at hqi
                    refine cd_skip ?_
                    refine px_then ?_
                    refine cd_seq ?_
                    refine cd_block ?_
                    refine cd_sr ?_   -- 10
                    refine ol_q (wn_none rfl) (op_index _ sB_22 rfl rfl rfl (hr.cons _) rfl (by omega)) rfl ?_
                    refine ol_q (wn_none rfl) (op_ldaw (L := tCallC _) ag_27 (hr.cons _) rfl (by omega) rfl (tCallC_ta _)) rfl ?_
                    refine ol_i (wn_none rfl) (os_alloc (cs := (tCallC TCall.zero).toArray) zB_27 (by kernel_rfl)) rfl ?_; rintro _ _ ⟨bx1, rfl, rfl⟩
                    refine ol_iN (wn_none rfl) (os_storew (tCallC _) ag_27 rfl rfl (tCallC_len _) (tCallC_one _) (by simp [tCallC_len]) (Free.zero _)) ?_; rintro _ _ ⟨rfl, rfl⟩
                    refine ol_nil_then ?_
                    refine cd_sr ?_   -- 11
                    refine ol_q (wn_none rfl) (op_field fld_27_0 rfl) rfl ?_
                    refine ol_q (wn_none rfl) (op_ld 0 sc_4 rfl rfl (tCallC_a0 _)) rfl ?_
                    refine ol_q (wn_none rfl) (op_not rfl) rfl ?_
                    refine ol_nil_then ?_
                    refine cd_cond rfl (fun hb14 => ?_) (fun hb14 => ?_)
                    · have hp14 := hb14
                      (try simp only [decide_eq_true_eq, decide_eq_false_iff_not, Bool.not_eq_true', Bool.not_eq_false', ne_eq, Decidable.not_not] at hp14)
                      refine cd_region ?_   -- 12
                      refine ol_q (wn_none rfl) (op_move (v := .pointer _) rfl) rfl ?_
                      refine ol_q (wn_none rfl) (op_lda (L := tCallC _) 0 ag_27 rfl rfl (tCallC_ta _) (by simp [tCallC_len])) rfl ?_
                      refine ol_i (wn_none rfl) (os_call cb_17 rfl (fun w s => vote_calls _  s )) rfl ?_; rintro _ l ⟨rfl, rfl⟩
                      refine ol_pull1 ?_
                      refine ol_i (wn_none rfl) (os_call cb_18 rfl (fun w s => Take_calls _ _ _  s )) rfl ?_; rintro _ _ ⟨rfl, rfl⟩
                      refine ol_nil ?_
                      refine px_blockN ?_
                      refine px_then ?_
                      refine cd_region ?_   -- 13
                      refine ol_q (wn_none rfl) (op_add rfl rfl (by omega) (by omega)) rfl ?_
                      refine ol_q (wn_none rfl) (op_move (v := .int _ _) rfl) rfl ?_
                      refine ol_nil ?_
                      refine px_loop2 (i + 1, (t.take ⟨xs[i].who, xs[i].slot, nameR xs[i].nr⟩).2) (by dsimp only; omega) (by (try dsimp only); omega) ⟨congrArg (Value.int .i64) (by simp), trivial⟩ ?_ (fun _ s => (s.del 1))
                      repeat (first | exact kept_over | refine kept_upd rfl ?_ | refine kept_overS (by decide) ?_)
                    · have hp14 := hb14
                      (try simp only [decide_eq_true_eq, decide_eq_false_iff_not, Bool.not_eq_true', Bool.not_eq_false', ne_eq, Decidable.not_not] at hp14)
                      refine cd_skip ?_
                      refine px_blockN ?_
                      refine px_then ?_
                      refine cd_region ?_   -- 13
                      refine ol_q (wn_none rfl) (op_add rfl rfl (by omega) (by omega)) rfl ?_
                      refine ol_q (wn_none rfl) (op_move (v := .int _ _) rfl) rfl ?_
                      refine ol_nil ?_
                      refine px_loop2 (i + 1, t) (by dsimp only; omega) (by (try dsimp only); omega) ⟨congrArg (Value.int .i64) (by simp), trivial⟩ ?_ (fun _ s => (s.del 0))
                      repeat (first | exact kept_over | refine kept_upd rfl ?_ | refine kept_overS (by decide) ?_)
                  · have hp13 := hb13
                    (try simp only [decide_eq_true_eq, decide_eq_false_iff_not, Bool.not_eq_true', Bool.not_eq_false', ne_eq, Decidable.not_not] at hp13)
                    refine cd_exit ?_
                    refine px_thenE ?_
                    refine px_thenE ?_
                    refine px_blockE ?_
                    refine px_then ?_
                    refine cd_sr ?_   -- 14
                    refine ol_q (wn_none rfl) (op_assign (v := .slice _ _ _) rfl) rfl ?_
                    refine ol_nil_then ?_
                    refine cd_sr ?_   -- 15
                    refine ol_q (wn_none rfl) (op_assign (v := .slice _ _ _) rfl) rfl ?_
                    refine ol_nil_then ?_
                    refine cd_seq ?_
                    refine cd_sr ?_   -- 16
                    refine ol_q (wn_none rfl) (op_assign (v := .int _ _) rfl) rfl ?_
                    refine ol_nil_then ?_
                    refine cd_block ?_
                    refine cd_loop2 (α := Nat × (Option Addr × Nat) × (Option Addr × Nat)) [(13, 17), (78, 97)] (fun x => [(13, .slice x.2.1.1 (befV x.1 t).length x.2.1.2), (14, .slice x.2.2.1 (befC x.1 t).length x.2.2.2), (15, .int .i64 (x.1 : Int))]) (fun x => Row 31 encVote (.slice x.2.1.1 (befV x.1 t).length x.2.1.2) (befV x.1 t) :: Row 4 encBool (.slice x.2.2.1 (befC x.1 t).length x.2.2.2) (befC x.1 t) :: TabObj p1 t :: l) (fun x => x.1 ≤ 8) (fun x => 8 - x.1) (0, (none, 0), (none, 0)) (by decide) ⟨rfl, rfl, rfl, trivial⟩ (fun _ s => (s.rowNil (E := encBool) (e := 4)).rowNil (E := encVote) (e := 31)) ?_
                    rintro ⟨k, ⟨va, vc⟩, ⟨wa, wc⟩⟩ hk f; (try dsimp only at hk ⊢); have hlv := befV_len k t; have hlc := befC_len k t
                    refine cd_seq ?_
                    refine cd_sr ?_   -- 17
                    refine ol_q (wn_none rfl) (op_move (v := .int _ _) rfl) rfl ?_
                    refine ol_q (wn_none rfl) (op_lt rfl rfl) rfl ?_
                    refine ol_nil_then ?_
                    refine cd_cond rfl (fun hb15 => ?_) (fun hb15 => ?_)
                    · have hp15 := hb15
                      (try simp only [decide_eq_true_eq, decide_eq_false_iff_not, Bool.not_eq_true', Bool.not_eq_false', ne_eq, Decidable.not_not] at hp15)
                      refine cd_skip ?_
                      refine px_then ?_
                      refine cd_seq ?_
                      refine cd_block ?_
                      refine cd_sr ?_   -- 19
                      refine ol_q (wn_none rfl) (op_move (v := .pointer _) rfl) rfl ?_
                      refine ol_q (wn_none rfl) (op_move (v := .int _ _) rfl) rfl ?_
                      refine ol_pull2 ?_
                      refine ol_i (wn_none rfl) (os_call cb_21 rfl (fun w s => TVote_calls _ _ _  s )) rfl ?_; rintro _ _ ⟨rfl, rfl⟩
                      refine ol_q (wn_none rfl) (op_move (v := .tuple _) rfl) rfl ?_
                      refine ol_q (wn_none rfl) (op_extract (v := .agg _) rfl rfl) rfl ?_
                      refine ol_q (wn_none rfl) (op_extract (v := .bool _) rfl rfl) rfl ?_
                      refine ol_i (wn_none rfl) (os_alloc (cs := (voteC Vote.zero).toArray) zB_31 (by kernel_rfl)) rfl ?_; rintro _ _ ⟨bx2, rfl, rfl⟩
                      refine ol_iN (wn_none rfl) (os_storew (voteC _) ag_31 rfl rfl (voteC_len _) (voteC_one _) (by simp [voteC_len]) (Free.zero _)) ?_; rintro _ _ ⟨rfl, rfl⟩
                      refine ol_q (wn_none rfl) (op_assign (v := .bool _) rfl) rfl ?_
                      refine ol_nil_then ?_
                      refine cd_sr ?_   -- 20
                      refine ol_q (wn_none rfl) (op_move (v := .slice _ _ _) rfl) rfl ?_
                      refine ol_q (wn_none rfl) (op_lda (L := voteC _) 0 ag_31 rfl rfl (voteC_ta _) (by simp [voteC_len])) rfl ?_
                      refine ol_i (wn_none rfl) (os_bslice (E := encVote) [_] (ys := [_]) sB_46 zv_31 rfl rfl rfl rfl (by decide)) rfl ?_; rintro _ _ ⟨ao1, rfl, rfl⟩
                      refine ol_pull3 ?_
                      refine ol_i (wn_none rfl) (os_append (E := encVote) rfl sB_46 zv_31 rfl rfl rfl (fun w s => (rds_row 1 rfl rfl) [] w s) rfl (by simp; omega) (by unfold maxLen; simp; omega)) rfl ?_; rintro _ _ ⟨ao2, ac2, rfl, rfl⟩
                      refine ol_q (wn_none rfl) (op_assign (v := .slice _ _ _) rfl) rfl ?_
                      refine ol_nil_then ?_
                      refine cd_region ?_   -- 21
                      refine ol_q (wn_none rfl) (op_move (v := .slice _ _ _) rfl) rfl ?_
                      refine ol_q (wn_none rfl) (op_move (v := .pointer _) rfl) rfl ?_
                      refine ol_q (wn_none rfl) (op_move (v := .int _ _) rfl) rfl ?_
                      refine ol_pull3 ?_
                      refine ol_i (wn_none rfl) (os_call cb_19 rfl (fun w s => Counts_calls _ _ _  s )) rfl ?_; rintro _ _ ⟨rfl, rfl⟩
                      refine ol_i (wn_none rfl) (os_bslice (E := encBool) [_] (ys := [_]) sB_52 zv_4 rfl rfl rfl rfl (by decide)) rfl ?_; rintro _ _ ⟨ao3, rfl, rfl⟩
                      refine ol_pull5 ?_
                      refine ol_i (wn_none rfl) (os_append (E := encBool) rfl sB_52 zv_4 rfl rfl rfl (fun w s => (rds_row 1 rfl rfl) [] w s) rfl (by simp; omega) (by unfold maxLen; simp; omega)) rfl ?_; rintro _ _ ⟨ao4, ac4, rfl, rfl⟩
                      refine ol_q (wn_none rfl) (op_assign (v := .slice _ _ _) rfl) rfl ?_
                      refine ol_nil ?_
                      refine px_blockN ?_
                      refine px_then ?_
                      refine cd_region ?_   -- 18
                      refine ol_q (wn_none rfl) (op_move (v := .int _ _) rfl) rfl ?_
                      refine ol_q (wn_none rfl) (op_add rfl rfl (by omega) (by omega)) rfl ?_
                      refine ol_q (wn_none rfl) (op_assign (v := .int _ _) rfl) rfl ?_
                      refine ol_nil ?_
                      have e1 := befV_succ k t; have e2 := befC_succ k t
                      refine px_loop2 (k + 1, (ao2, ac2), (ao4, ac4)) (by dsimp only; omega) (by (try dsimp only); omega) ⟨congrArg (fun q => Value.slice ao2 (List.length q) ac2) e1.symm, congrArg (fun q => Value.slice ao4 (List.length q) ac4) e2.symm, congrArg (Value.int .i64) (by simp), trivial⟩ ?_ (fun _ s => (by rw [e1, e2]; exact ((((((s.del 5).del 4).del 1).pull 1).pull 1).pull 2)))
                      repeat (first | exact kept_over | refine kept_upd rfl ?_ | refine kept_overS (by decide) ?_)
                    · have hp15 := hb15
                      (try simp only [decide_eq_true_eq, decide_eq_false_iff_not, Bool.not_eq_true', Bool.not_eq_false', ne_eq, Decidable.not_not] at hp15)
                      refine cd_exit ?_
                      refine px_thenE ?_
                      refine px_thenE ?_
                      refine px_blockE ?_
                      refine px_then ?_
                      refine cd_sr ?_   -- 22
                      refine ol_q (wn_none rfl) (op_move (v := .pointer _) rfl) rfl ?_
                      refine ol_pull2 ?_
                      refine ol_i (wn_none rfl) (os_call cb_20 rfl (fun w s => Marks_calls _ _  s )) rfl ?_; rintro _ _ ⟨rfl, rfl⟩
                      refine ol_q (wn_none rfl) (op_assign (v := .int _ _) rfl) rfl ?_
                      refine ol_nil_then ?_
                      obtain rfl : k = 8 := by omega
                      refine cd_know (φ := t.WF) (fun w s => s.tabWF) (fun hwf => ?_)
                      have hf0 := TabS.forget_zero hwf
                      refine cd_sr ?_   -- 23
                      refine ol_q (wn_none rfl) (op_move (v := .pointer _) rfl) rfl ?_
                      refine ol_i (wn_none rfl) (os_call cb_25 rfl (fun w s => Forget_calls (slot := 0) _ _  s (by omega))) rfl ?_; rintro _ _ ⟨rfl, rfl⟩; rw [hf0]
                      refine ol_nil_then ?_
                      refine cd_seq ?_
                      refine cd_sr ?_   -- 24
                      refine ol_q (wn_none rfl) (op_move (v := .pointer _) rfl) rfl ?_
                      refine ol_i (wn_none rfl) (os_call cb_20 rfl (fun w s => Marks_calls _ _  s )) rfl ?_; rintro _ _ ⟨rfl, rfl⟩
                      refine ol_q (wn_none rfl) (op_move (v := .int _ _) rfl) rfl ?_
                      refine ol_q (wn_none rfl) (op_ne rfl rfl) rfl ?_
                      refine ol_nil_then ?_
                      refine cd_cond rfl (fun hb16 => ?_) (fun hb16 => ?_)
                      · have hp16 := hb16
                        (try simp only [decide_eq_true_eq, decide_eq_false_iff_not, Bool.not_eq_true', Bool.not_eq_false', ne_eq, Decidable.not_not] at hp16)
                        exact absurd hb16 (by simp)
                      · have hp16 := hb16
                        (try simp only [decide_eq_true_eq, decide_eq_false_iff_not, Bool.not_eq_true', Bool.not_eq_false', ne_eq, Decidable.not_not] at hp16)
                        refine cd_skip ?_
                        refine px_then ?_
                        refine cd_sr ?_   -- 26
                        refine ol_q (wn_none rfl) (op_move (v := .pointer _) rfl) rfl ?_
                        refine ol_q (wn_none rfl) (op_move (v := .int _ _) rfl) rfl ?_
                        refine ol_i (wn_none rfl) (os_call cb_25 rfl (fun w s => Forget_calls _ _ _  s (by omega))) rfl ?_; rintro _ _ ⟨rfl, rfl⟩
                        refine ol_nil_then ?_
                        refine cd_sr ?_   -- 27
                        refine ol_q (wn_none rfl) (op_move (v := .pointer _) rfl) rfl ?_
                        refine ol_i (wn_none rfl) (os_call cb_20 rfl (fun w s => Marks_calls _ _  s )) rfl ?_; rintro _ _ ⟨rfl, rfl⟩
                        refine ol_q (wn_none rfl) (op_assign (v := .int _ _) rfl) rfl ?_
                        refine ol_nil_then ?_
                        refine cd_sr ?_   -- 28
                        refine ol_q (wn_none rfl) (op_move (v := .pointer _) rfl) rfl ?_
                        refine ol_q (wn_none rfl) (op_move (v := .int _ _) rfl) rfl ?_
                        refine ol_q (wn_none rfl) (op_move (v := .int _ _) rfl) rfl ?_
                        refine ol_q (wn_none rfl) (op_add rfl rfl (by omega) (by omega)) rfl ?_
                        refine ol_i (wn_none rfl) (os_call cb_25 rfl (fun w s => Forget_calls _ _ _  s (by omega))) rfl ?_; rintro _ _ ⟨rfl, rfl⟩
                        refine ol_nil_then ?_
                        refine cd_seq ?_
                        refine cd_sr ?_   -- 29
                        refine ol_q (wn_none rfl) (op_assign (v := .int _ _) rfl) rfl ?_
                        refine ol_nil_then ?_
                        refine cd_block ?_
                        refine cd_loop2 (α := Nat) [(8, 8), (20, 22), (116, 141)] (fun x => [(20, .int .i64 (x : Int))]) (fun _ => _) (fun x => x ≤ 8) (fun x => 8 - x) 0 (by decide) ⟨rfl, trivial⟩ (fun _ s => s) ?_
                        intro j hj f; have hlv := befV_len 8 t; have hlc := befC_len 8 t
                        refine cd_seq ?_
                        refine cd_sr ?_   -- 30
                        refine ol_q (wn_none rfl) (op_move (v := .int _ _) rfl) rfl ?_
                        refine ol_q (wn_none rfl) (op_lt rfl rfl) rfl ?_
                        refine ol_nil_then ?_
                        refine cd_cond rfl (fun hb17 => ?_) (fun hb17 => ?_)
                        · have hp17 := hb17
                          (try simp only [decide_eq_true_eq, decide_eq_false_iff_not, Bool.not_eq_true', Bool.not_eq_false', ne_eq, Decidable.not_not] at hp17)
                          have hF1 : (((t.forget at_).forget (at_ + more)).vote (j : Int)) = t.vote (j : Int) := (TabS.forget_ends _ _ _).1.trans (TabS.forget_ends _ _ _).1
                          have hF2 : (((t.forget at_).forget (at_ + more)).counts (j : Int)) = t.counts (j : Int) := (TabS.forget_ends _ _ _).2.trans (TabS.forget_ends _ _ _).2
                          have hG1 := befV_get 8 t j (by omega)
                          have hG2 := befC_get 8 t j (by omega)
                          refine cd_skip ?_
                          refine px_then ?_
                          refine cd_seq ?_
                          refine cd_block ?_
                          refine cd_sr ?_   -- 32
                          refine ol_q (wn_none rfl) (op_move (v := .pointer _) rfl) rfl ?_
                          refine ol_q (wn_none rfl) (op_move (v := .int _ _) rfl) rfl ?_
                          refine ol_i (wn_none rfl) (os_call cb_21 rfl (fun w s => TVote_calls _ _ _  s )) rfl ?_; rintro _ _ ⟨rfl, rfl⟩
                          refine ol_q (wn_none rfl) (op_move (v := .tuple _) rfl) rfl ?_
                          refine ol_q (wn_none rfl) (op_extract (v := .agg _) rfl rfl) rfl ?_
                          refine ol_q (wn_none rfl) (op_extract (v := .bool _) rfl rfl) rfl ?_
                          refine ol_i (wn_none rfl) (os_alloc (cs := (voteC Vote.zero).toArray) zB_31 (by kernel_rfl)) rfl ?_; rintro _ _ ⟨bx3, rfl, rfl⟩
                          refine ol_iN (wn_none rfl) (os_storew (voteC _) ag_31 rfl rfl (voteC_len _) (voteC_one _) (by simp [voteC_len]) (Free.zero _)) ?_; rintro _ _ ⟨rfl, rfl⟩
                          refine ol_q (wn_none rfl) (op_assign (v := .bool _) rfl) rfl ?_
                          refine ol_nil_then ?_
                          refine cd_pull1 ?_
                          refine cd_seq ?_   -- 33
                          refine cd_draw (M := [_]) mx [9] (by kernel_rfl) ?_
                          refine rg_q (wn_none rfl) (op_lda (L := voteC _) 0 ag_31 rfl rfl (voteC_ta _) (by simp [voteC_len])) rfl rfl ?_
                          refine rg_q (wn_none rfl) (op_move (v := .slice _ _ _) rfl) rfl rfl ?_
                          refine rg_q (wn_none rfl) (op_move (v := .int _ _) rfl) rfl rfl ?_
                          refine rg_q (wn_none rfl) (op_index _ sB_46 rfl rfl rfl (rds_row 1 rfl rfl) rfl (by omega)) rfl rfl ?_
                          refine rg_q (wn_none rfl) (op_ldaw (L := voteC _) ag_31 (rds_row 1 rfl rfl) rfl (by omega) rfl (voteC_ta _)) rfl rfl ?_
                          refine rg_q (wn_none rfl) (op_nes stB_31 rfl rfl (feq_Vote fs_31 Try.underlying3 rB_29 _ _)) rfl rfl ?_
                          refine rg_q (wn_none rfl) (op_move (v := .bool _) rfl) rfl rfl ?_
                          refine rg_split 132 rfl (fun hb18 => ?_) (fun hb18 => ?_)
                          · have hp18 := hb18
                            (try simp only [decide_eq_true_eq, decide_eq_false_iff_not, Bool.not_eq_true', Bool.not_eq_false', ne_eq, Decidable.not_not] at hp18)
                            exact absurd hb18 (by rw [hF1, hG1]; simp)
                          · have hp18 := hb18
                            (try simp only [decide_eq_true_eq, decide_eq_false_iff_not, Bool.not_eq_true', Bool.not_eq_false', ne_eq, Decidable.not_not] at hp18)
                            refine rg_q (wn_some rfl rfl rfl hb18 rfl) (op_move (v := .pointer _) rfl) rfl rfl ?_
                            refine rg_q (wn_some rfl rfl rfl hb18 rfl) (op_move (v := .int _ _) rfl) rfl rfl ?_
                            refine rg_i (wn_some rfl rfl rfl hb18 rfl) (os_call cb_19 rfl (fun w s => Counts_calls _ _ _  s )) rfl rfl ?_; rintro _ _ ⟨rfl, rfl⟩; refine ⟨[_], rfl, ?_⟩
                            refine rg_q (wn_some rfl rfl rfl hb18 rfl) (op_move (v := .slice _ _ _) rfl) rfl rfl ?_
                            refine rg_q (wn_some rfl rfl rfl hb18 rfl) (op_move (v := .int _ _) rfl) rfl rfl ?_
                            refine rg_q (wn_some rfl rfl rfl hb18 rfl) (op_index _ sB_52 rfl rfl rfl (rds_row 2 rfl rfl) rfl (by omega)) rfl rfl ?_
                            refine rg_q (wn_some rfl rfl rfl hb18 rfl) (op_ldw sc_4 (rds_row 2 rfl rfl) rfl (by omega) rfl) rfl rfl ?_
                            refine rg_q (wn_some rfl rfl rfl hb18 rfl) (op_bneq Try.underlying4 rfl rfl) rfl rfl ?_
                            refine rg_q (wn_none rfl) (op_pick_f (v := .bool _) rfl hb18 rfl) rfl rfl ?_
                            refine rg_nil_then1 ?_
                            refine cd_cond rfl (fun hb19 => ?_) (fun hb19 => ?_)
                            · have hp19 := hb19
                              (try simp only [decide_eq_true_eq, decide_eq_false_iff_not, Bool.not_eq_true', Bool.not_eq_false', ne_eq, Decidable.not_not] at hp19)
                              exact absurd hb19 (by rw [hF2, hG2]; simp)
                            · have hp19 := hb19
                              (try simp only [decide_eq_true_eq, decide_eq_false_iff_not, Bool.not_eq_true', Bool.not_eq_false', ne_eq, Decidable.not_not] at hp19)
                              refine cd_skip ?_
                              refine px_blockN ?_
                              refine px_then ?_
                              refine cd_region ?_   -- 31
                              refine ol_q (wn_none rfl) (op_move (v := .int _ _) rfl) rfl ?_
                              refine ol_q (wn_none rfl) (op_add rfl rfl (by omega) (by omega)) rfl ?_
                              refine ol_q (wn_none rfl) (op_assign (v := .int _ _) rfl) rfl ?_
                              refine ol_nil ?_
                              refine px_loop2 (j + 1) (by omega) (by (try dsimp only); omega) ⟨congrArg (Value.int .i64) (by simp), trivial⟩ ?_ (fun _ s => (s.del 1))
                              repeat (first | exact kept_over | refine kept_upd rfl ?_ | refine kept_overS (by decide) ?_)
                        · have hp17 := hb17
                          (try simp only [decide_eq_true_eq, decide_eq_false_iff_not, Bool.not_eq_true', Bool.not_eq_false', ne_eq, Decidable.not_not] at hp17)
                          refine cd_exit ?_
                          refine px_thenE ?_
                          refine px_thenE ?_
                          refine px_blockE ?_
                          refine px_then ?_
                          refine cd_sr ?_   -- 35
                          refine ol_q (wn_none rfl) (op_move (v := .int _ _) rfl) rfl ?_
                          refine ol_q (wn_none rfl) (op_move (v := .int _ _) rfl) rfl ?_
                          refine ol_q (wn_none rfl) (op_le rfl rfl) rfl ?_
                          refine ol_q (wn_none rfl) (op_move (v := .bool _) rfl) rfl ?_
                          refine ol_split 145 rfl (fun hb20 => ?_) (fun hb20 => ?_)
                          · have hp20 := hb20
                            (try simp only [decide_eq_true_eq, decide_eq_false_iff_not, Bool.not_eq_true', Bool.not_eq_false', ne_eq, Decidable.not_not] at hp20)
                            refine ol_q (wn_some rfl rfl rfl hb20 rfl) (op_move (v := .pointer _) rfl) rfl ?_
                            refine ol_i (wn_some rfl rfl rfl hb20 rfl) (os_call cb_20 rfl (fun w s => Marks_calls _ _  s )) rfl ?_; rintro _ _ ⟨rfl, rfl⟩
                            refine ol_q (wn_some rfl rfl rfl hb20 rfl) (op_move (v := .int _ _) rfl) rfl ?_
                            refine ol_q (wn_some rfl rfl rfl hb20 rfl) (op_le rfl rfl) rfl ?_
                            refine ol_q (wn_none rfl) (op_pick_t (v := .bool _) rfl hb20 rfl) rfl ?_
                            refine ol_q (wn_none rfl) (op_assign (v := .bool _) rfl) rfl ?_
                            refine ol_nil_then ?_
                            refine cd_ret ?_
                            exact px_ret1 rfl (v := .bool _) rfl (fun _ s => (((s.del 2).del 1).del 0)) ⟨congrArg Value.bool (by have := TabS.forget_marks (t.forget at_) (at_ + more); simp; omega), rfl⟩
                          · have hp20 := hb20
                            (try simp only [decide_eq_true_eq, decide_eq_false_iff_not, Bool.not_eq_true', Bool.not_eq_false', ne_eq, Decidable.not_not] at hp20)
                            exact absurd hb20 (by have := TabS.forget_marks t at_; simp; omega)
              · have hp10 := hb10
                (try simp only [decide_eq_true_eq, decide_eq_false_iff_not, Bool.not_eq_true', Bool.not_eq_false', ne_eq, Decidable.not_not] at hp10)
                refine ol_skip (wn_some rfl rfl rfl hb10 rfl) rfl ?_
                refine ol_skip (wn_some rfl rfl rfl hb10 rfl) rfl ?_
                refine ol_q (wn_none rfl) (op_pick_f (v := .bool _) rfl hb10 rfl) rfl ?_
                refine ol_q (wn_none rfl) (op_assign (v := .pointer _) rfl) rfl ?_
                refine ol_q (wn_none rfl) (op_assign (v := .bool _) rfl) rfl ?_
                refine ol_nil_then ?_
                refine cd_seq ?_
                refine cd_sr ?_   -- 6
                refine ol_q (wn_none rfl) (op_move (v := .bool _) rfl) rfl ?_
                refine ol_q (wn_none rfl) (op_not rfl) rfl ?_
                refine ol_q (wn_none rfl) (op_move (v := .bool _) rfl) rfl ?_
                refine ol_skip (wn_some rfl rfl rfl rfl rfl) rfl ?_
                refine ol_skip (wn_some rfl rfl rfl rfl rfl) rfl ?_
                refine ol_q (wn_none rfl) (op_pick_t (v := .bool _) rfl rfl rfl) rfl ?_
                refine ol_nil_then ?_
                refine cd_cond_t rfl rfl ?_
                refine cd_sr ?_   -- 7
                refine ol_q (wn_none rfl) (op_move (v := .bool _) rfl) rfl ?_
                refine ol_q (wn_none rfl) (op_not rfl) rfl ?_
                refine ol_q (wn_none rfl) (op_move (v := .bool _) rfl) rfl ?_
                refine ol_q (wn_some rfl rfl rfl rfl rfl) (op_move (v := .pointer _) rfl) rfl ?_
                refine ol_q (wn_some rfl rfl rfl rfl rfl) (op_eqnil Try.underlying24 rfl rfl) rfl ?_
                refine ol_q (wn_none rfl) (op_pick_t (v := .bool _) rfl rfl rfl) rfl ?_
                refine ol_q (wn_none rfl) (op_assign (v := .bool _) rfl) rfl ?_
                refine ol_nil_then ?_
                refine cd_ret ?_
                refine px_thenR ?_
                exact px_ret1 rfl (v := .bool _) rfl (fun _ s => (s.del 0)) ⟨congrArg Value.bool (by first | rfl | (simp; omega)), rfl⟩

set_option maxRecDepth 100000 in
set_option maxHeartbeats 1000000 in
theorem TableOrder_calls {w0 w : World} {l : List HProp} (n sl : Int) (ao : Option Addr) (c : Nat) (xs : List TCall) (turn : Int) (hs : Sat w0 w (l)) (hr : Rds w0 l encTCall ao xs) (hq : ∀ a ∈ xs, I64 a.who ∧ I64 a.slot ∧ I64 a.nr) :
    Calls Try.prog 4 #[.int .i64 n, .int .i64 sl, .slice ao xs.length c, .int .i64 turn] w (Ret w0 fun v l' => v = .bool true ∧ l' = l) := by
  refine calls_enter Try.func4 rfl rfl rfl hs ?_
  refine cd_sr ?_   -- 0
  refine ol_q (wn_none rfl) (op_assign (v := .bool _) rfl) rfl ?_
  refine ol_nil_then ?_
  refine cd_seq ?_
  refine cd_sr ?_   -- 1
  refine ol_i (wn_none rfl) (os_call cb_15 rfl (fun w s => tabAlive_calls  s )) rfl ?_; rintro _ l ⟨rfl, rfl⟩
  refine ol_q (wn_none rfl) (op_not rfl) rfl ?_
  refine ol_nil_then ?_
  refine cd_cond_f rfl rfl ?_
  refine cd_skip ?_
  refine px_then ?_
  refine cd_seq ?_
  refine cd_sr ?_   -- 3
  refine ol_q (wn_none rfl) (op_move (v := .slice _ _ _) rfl) rfl ?_
  refine ol_q (wn_none rfl) (op_len_slice Try.underlying22 rfl) rfl ?_
  refine ol_q (wn_none rfl) (op_gt rfl rfl) rfl ?_
  refine ol_q (wn_none rfl) (op_move (v := .bool _) rfl) rfl ?_
  refine ol_split 24 rfl (fun hb1 => ?_) (fun hb1 => ?_)
  · have hp1 := hb1
    (try simp only [decide_eq_true_eq, decide_eq_false_iff_not, Bool.not_eq_true', Bool.not_eq_false', ne_eq, Decidable.not_not] at hp1)
    refine ol_skip (wn_some rfl rfl rfl hb1 rfl) rfl ?_
    refine ol_skip (wn_some rfl rfl rfl hb1 rfl) rfl ?_
    refine ol_skip (wn_some rfl rfl rfl hb1 rfl) rfl ?_
    refine ol_q (wn_none rfl) (op_pick_t (v := .bool _) rfl hb1 rfl) rfl ?_
    refine ol_nil_then ?_
    refine cd_cond_t rfl rfl ?_
    refine cd_sr ?_   -- 4
    refine ol_q (wn_none rfl) (op_assign (v := .bool _) rfl) rfl ?_
    refine ol_nil_then ?_
    refine cd_ret ?_
    refine px_thenR ?_
    exact px_ret1 rfl (v := .bool _) rfl (fun _ s => s) ⟨congrArg Value.bool (by first | rfl | (simp; omega)), rfl⟩
  · have hp1 := hb1
    (try simp only [decide_eq_true_eq, decide_eq_false_iff_not, Bool.not_eq_true', Bool.not_eq_false', ne_eq, Decidable.not_not] at hp1)
    refine ol_q (wn_some rfl rfl rfl hb1 rfl) (op_move (v := .slice _ _ _) rfl) rfl ?_
    refine ol_q (wn_some rfl rfl rfl hb1 rfl) (op_len_slice Try.underlying22 rfl) rfl ?_
    refine ol_q (wn_some rfl rfl rfl hb1 rfl) (op_eq rfl rfl) rfl ?_
    refine ol_q (wn_none rfl) (op_pick_f (v := .bool _) rfl hb1 rfl) rfl ?_
    refine ol_nil_then ?_
    refine cd_cond rfl (fun hb2 => ?_) (fun hb2 => ?_)
    · have hp2 := hb2
      (try simp only [decide_eq_true_eq, decide_eq_false_iff_not, Bool.not_eq_true', Bool.not_eq_false', ne_eq, Decidable.not_not] at hp2)
      refine cd_sr ?_   -- 4
      refine ol_q (wn_none rfl) (op_assign (v := .bool _) rfl) rfl ?_
      refine ol_nil_then ?_
      refine cd_ret ?_
      refine px_thenR ?_
      exact px_ret1 rfl (v := .bool _) rfl (fun _ s => s) ⟨congrArg Value.bool (by first | rfl | (simp; omega)), rfl⟩
    · have hp2 := hb2
      (try simp only [decide_eq_true_eq, decide_eq_false_iff_not, Bool.not_eq_true', Bool.not_eq_false', ne_eq, Decidable.not_not] at hp2)
      refine cd_skip ?_
      refine px_then ?_
      refine cd_sr ?_   -- 5
      refine ol_q (wn_none rfl) (op_move (v := .int _ _) rfl) rfl ?_
      refine ol_q (wn_none rfl) (op_move (v := .int _ _) rfl) rfl ?_
      refine ol_i (wn_none rfl) (os_call cb_16 rfl (fun w s => New_calls _ _ s)) rfl ?_; rintro _ l2 (⟨rfl, hl2, hbad1⟩ | ⟨p1, rfl, hok1, rfl⟩)
      · rw [hl2]
        refine ol_q (wn_none rfl) (op_move (v := .int _ _) rfl) rfl ?_
        refine ol_q (wn_none rfl) (op_move (v := .int _ _) rfl) rfl ?_
        refine ol_i (wn_none rfl) (os_call cb_16 rfl (fun w s => New_calls _ _ s)) rfl ?_; rintro _ l2 (⟨rfl, hl2, hbad2⟩ | ⟨p2, rfl, hok2, rfl⟩)
        · rw [hl2]
          refine ol_q (wn_none rfl) (op_assign (v := .pointer _) rfl) rfl ?_
          refine ol_q (wn_none rfl) (op_assign (v := .pointer _) rfl) rfl ?_
          refine ol_nil_then ?_
          refine cd_seq ?_
          refine cd_sr ?_   -- 6
          refine ol_q (wn_none rfl) (op_move (v := .pointer _) rfl) rfl ?_
          refine ol_q (wn_none rfl) (op_eqnil Try.underlying24 rfl rfl) rfl ?_
          refine ol_q (wn_none rfl) (op_move (v := .bool _) rfl) rfl ?_
          refine ol_skip (wn_some rfl rfl rfl rfl rfl) rfl ?_
          refine ol_skip (wn_some rfl rfl rfl rfl rfl) rfl ?_
          refine ol_q (wn_none rfl) (op_pick_t (v := .bool _) rfl rfl rfl) rfl ?_
          refine ol_nil_then ?_
          refine cd_cond_t rfl rfl ?_
          refine cd_sr ?_   -- 7
          refine ol_q (wn_none rfl) (op_move (v := .int _ _) rfl) rfl ?_
          refine ol_q (wn_none rfl) (op_lt rfl rfl) rfl ?_
          refine ol_q (wn_none rfl) (op_move (v := .bool _) rfl) rfl ?_
          refine ol_split 43 rfl (fun hb3 => ?_) (fun hb3 => ?_)
          · have hp3 := hb3
            (try simp only [decide_eq_true_eq, decide_eq_false_iff_not, Bool.not_eq_true', Bool.not_eq_false', ne_eq, Decidable.not_not] at hp3)
            refine ol_skip (wn_some rfl rfl rfl hb3 rfl) rfl ?_
            refine ol_skip (wn_some rfl rfl rfl hb3 rfl) rfl ?_
            refine ol_q (wn_none rfl) (op_pick_t (v := .bool _) rfl hb3 rfl) rfl ?_
            refine ol_q (wn_none rfl) (op_move (v := .bool _) rfl) rfl ?_
            refine ol_skip (wn_some rfl rfl rfl rfl rfl) rfl ?_
            refine ol_skip (wn_some rfl rfl rfl rfl rfl) rfl ?_
            refine ol_q (wn_none rfl) (op_pick_t (v := .bool _) rfl rfl rfl) rfl ?_
            refine ol_q (wn_none rfl) (op_move (v := .bool _) rfl) rfl ?_
            refine ol_skip (wn_some rfl rfl rfl rfl rfl) rfl ?_
            refine ol_skip (wn_some rfl rfl rfl rfl rfl) rfl ?_
            refine ol_q (wn_none rfl) (op_pick_t (v := .bool _) rfl rfl rfl) rfl ?_
            refine ol_q (wn_none rfl) (op_assign (v := .bool _) rfl) rfl ?_
            refine ol_nil_then ?_
            refine cd_ret ?_
            refine px_thenR ?_
            exact px_ret1 rfl (v := .bool _) rfl (fun _ s => s) ⟨congrArg Value.bool (by first | rfl | (simp; omega)), rfl⟩
          · have hp3 := hb3
            (try simp only [decide_eq_true_eq, decide_eq_false_iff_not, Bool.not_eq_true', Bool.not_eq_false', ne_eq, Decidable.not_not] at hp3)
            refine ol_q (wn_some rfl rfl rfl hb3 rfl) (op_move (v := .int _ _) rfl) rfl ?_
            refine ol_q (wn_some rfl rfl rfl hb3 rfl) (op_gt rfl rfl) rfl ?_
            refine ol_q (wn_none rfl) (op_pick_f (v := .bool _) rfl hb3 rfl) rfl ?_
            refine ol_q (wn_none rfl) (op_move (v := .bool _) rfl) rfl ?_
            refine ol_split 47 rfl (fun hb4 => ?_) (fun hb4 => ?_)
            · have hp4 := hb4
              (try simp only [decide_eq_true_eq, decide_eq_false_iff_not, Bool.not_eq_true', Bool.not_eq_false', ne_eq, Decidable.not_not] at hp4)
              refine ol_skip (wn_some rfl rfl rfl hb4 rfl) rfl ?_
              refine ol_skip (wn_some rfl rfl rfl hb4 rfl) rfl ?_
              refine ol_q (wn_none rfl) (op_pick_t (v := .bool _) rfl hb4 rfl) rfl ?_
              refine ol_q (wn_none rfl) (op_move (v := .bool _) rfl) rfl ?_
              refine ol_skip (wn_some rfl rfl rfl rfl rfl) rfl ?_
              refine ol_skip (wn_some rfl rfl rfl rfl rfl) rfl ?_
              refine ol_q (wn_none rfl) (op_pick_t (v := .bool _) rfl rfl rfl) rfl ?_
              refine ol_q (wn_none rfl) (op_assign (v := .bool _) rfl) rfl ?_
              refine ol_nil_then ?_
              refine cd_ret ?_
              refine px_thenR ?_
              exact px_ret1 rfl (v := .bool _) rfl (fun _ s => s) ⟨congrArg Value.bool (by first | rfl | (simp; omega)), rfl⟩
            · have hp4 := hb4
              (try simp only [decide_eq_true_eq, decide_eq_false_iff_not, Bool.not_eq_true', Bool.not_eq_false', ne_eq, Decidable.not_not] at hp4)
              refine ol_q (wn_some rfl rfl rfl hb4 rfl) (op_move (v := .int _ _) rfl) rfl ?_
              refine ol_q (wn_some rfl rfl rfl hb4 rfl) (op_lt rfl rfl) rfl ?_
              refine ol_q (wn_none rfl) (op_pick_f (v := .bool _) rfl hb4 rfl) rfl ?_
              refine ol_q (wn_none rfl) (op_move (v := .bool _) rfl) rfl ?_
              refine ol_split 51 rfl (fun hb5 => ?_) (fun hb5 => ?_)
              · have hp5 := hb5
                (try simp only [decide_eq_true_eq, decide_eq_false_iff_not, Bool.not_eq_true', Bool.not_eq_false', ne_eq, Decidable.not_not] at hp5)
                refine ol_skip (wn_some rfl rfl rfl hb5 rfl) rfl ?_
                refine ol_skip (wn_some rfl rfl rfl hb5 rfl) rfl ?_
                refine ol_q (wn_none rfl) (op_pick_t (v := .bool _) rfl hb5 rfl) rfl ?_
                refine ol_q (wn_none rfl) (op_assign (v := .bool _) rfl) rfl ?_
                refine ol_nil_then ?_
                refine cd_ret ?_
                refine px_thenR ?_
                exact px_ret1 rfl (v := .bool _) rfl (fun _ s => s) ⟨congrArg Value.bool (by first | rfl | (simp; omega)), rfl⟩
              · have hp5 := hb5
                (try simp only [decide_eq_true_eq, decide_eq_false_iff_not, Bool.not_eq_true', Bool.not_eq_false', ne_eq, Decidable.not_not] at hp5)
                refine ol_q (wn_some rfl rfl rfl hb5 rfl) (op_move (v := .int _ _) rfl) rfl ?_
                refine ol_q (wn_some rfl rfl rfl hb5 rfl) (op_gt rfl rfl) rfl ?_
                refine ol_q (wn_none rfl) (op_pick_f (v := .bool _) rfl hb5 rfl) rfl ?_
                refine ol_q (wn_none rfl) (op_assign (v := .bool _) rfl) rfl ?_
                refine ol_nil_then ?_
                refine cd_ret ?_
                refine px_thenR ?_
                exact px_ret1 rfl (v := .bool _) rfl (fun _ s => s) ⟨congrArg Value.bool (by first | rfl | (simp; omega)), rfl⟩
        · exact absurd hbad1 (by omega)
      · have hob1 := hok1
        refine ol_q (wn_none rfl) (op_move (v := .int _ _) rfl) rfl ?_
        refine ol_q (wn_none rfl) (op_move (v := .int _ _) rfl) rfl ?_
        refine ol_i (wn_none rfl) (os_call cb_16 rfl (fun w s => New_calls _ _ s)) rfl ?_; rintro _ l2 (⟨rfl, hl2, hbad2⟩ | ⟨p2, rfl, hok2, rfl⟩)
        · exact absurd hbad2 (by omega)
        · have hob2 := hok2
          refine ol_q (wn_none rfl) (op_assign (v := .pointer _) rfl) rfl ?_
          refine ol_q (wn_none rfl) (op_assign (v := .pointer _) rfl) rfl ?_
          refine ol_nil_then ?_
          refine cd_seq ?_
          refine cd_sr ?_   -- 6
          refine ol_q (wn_none rfl) (op_move (v := .pointer _) rfl) rfl ?_
          refine ol_q (wn_none rfl) (op_eqnil Try.underlying24 rfl rfl) rfl ?_
          refine ol_q (wn_none rfl) (op_move (v := .bool _) rfl) rfl ?_
          refine ol_q (wn_some rfl rfl rfl rfl rfl) (op_move (v := .pointer _) rfl) rfl ?_
          refine ol_q (wn_some rfl rfl rfl rfl rfl) (op_eqnil Try.underlying24 rfl rfl) rfl ?_
          refine ol_q (wn_none rfl) (op_pick_f (v := .bool _) rfl rfl rfl) rfl ?_
          refine ol_nil_then ?_
          refine cd_cond_f rfl rfl ?_
          refine cd_skip ?_
          refine px_then ?_
          refine cd_sr ?_   -- 8
          refine ol_q (wn_none rfl) (op_move (v := .slice _ _ _) rfl) rfl ?_
          refine ol_q (wn_none rfl) (op_len_slice Try.underlying22 rfl) rfl ?_
          refine ol_q (wn_none rfl) (op_assign (v := .int _ _) rfl) rfl ?_
          refine ol_nil_then ?_
          have hkt : u64N turn % xs.length < xs.length := Nat.mod_lt _ (by omega)
          refine cd_sr ?_   -- 9
          refine ol_q (wn_none rfl) (op_move (v := .int _ _) rfl) rfl ?_
          refine ol_q (wn_none rfl) (op_conv64i Try.underlying38 (by rw [Try.underlying3]; rfl) rfl) rfl ?_
          refine ol_q (wn_none rfl) (op_move (v := .int _ _) rfl) rfl ?_
          refine ol_q (wn_none rfl) (op_conv64 Try.underlying38 (by rw [Try.underlying3]; rfl) rfl (by omega)) rfl ?_
          refine ol_q (wn_none rfl) (op_remn rfl rfl (by first | decide | omega)) rfl ?_
          refine ol_q (wn_none rfl) (op_convint Try.underlying3 (by rw [Try.underlying38]; rfl) rfl (by omega)) rfl ?_
          refine ol_q (wn_none rfl) (op_assign (v := .int _ _) rfl) rfl ?_
          refine ol_nil_then ?_
          refine cd_seq ?_
          generalize u64N turn % xs.length = kt at hkt ⊢
          refine cd_sr ?_   -- 10
          refine ol_q (wn_none rfl) (op_move (v := .slice _ _ _) rfl) rfl ?_
          refine ol_q (wn_none rfl) (op_len_slice Try.underlying22 rfl) rfl ?_
          refine ol_q (wn_none rfl) (op_move (v := .int _ _) rfl) rfl ?_
          refine ol_nil_then ?_
          refine cd_block ?_
          refine cd_loop2 (α := Nat) [(13, 13), (65, 89)] (fun x => [(65, .int .i64 (x : Int))]) (fun x => TabObj p2 ((TabS.new n.toNat sl).all (turnedTo (xs.map voteOf) kt x)) :: TabObj p1 ((TabS.new n.toNat sl).all ((xs.map voteOf).take x)) :: l) (fun x => x ≤ xs.length) (fun x => xs.length - x) 0 (Nat.zero_le _) ⟨rfl, trivial⟩ (fun _ s => s) ?_
          intro i hi f; (try dsimp only at hi ⊢)
          refine cd_sr ?_   -- 11
          refine ol_q (wn_none rfl) (op_lt rfl rfl) rfl ?_
          refine ol_nil_then ?_
          refine cd_seq ?_
          refine cd_cond rfl (fun hb6 => ?_) (fun hb6 => ?_)
          · have hp6 := hb6
            (try simp only [decide_eq_true_eq, decide_eq_false_iff_not, Bool.not_eq_true', Bool.not_eq_false', ne_eq, Decidable.not_not] at hp6)
            have hj1 : turned xs kt i < xs.length := turned_lt (by omega)
            have hmm : (i + kt) % xs.length < xs.length := Nat.mod_lt _ (by omega)
            have hj2 : (xs.length : Int) - 1 - ((i : Int) + kt) % xs.length = (turned xs kt i : Int) := by unfold turned; rw [← Int.natCast_add, ← Int.natCast_emod]; omega
            have hj3 : ((i : Int) + kt) % xs.length = (((i + kt) % xs.length : Nat) : Int) := by rw [← Int.natCast_add, ← Int.natCast_emod]
            have hqi := hq _ (List.getElem_mem (show i < xs.length by omega)); unfold I64 at hqi
            refine cd_skip ?_
            refine px_then ?_
            refine cd_seq ?_
            refine cd_block ?_
            refine cd_sr ?_   -- 12
            refine ol_q (wn_none rfl) (op_move (v := .int _ _) rfl) rfl ?_
            refine ol_q (wn_none rfl) (op_assign (v := .int _ _) rfl) rfl ?_
            refine ol_nil_then ?_
            refine cd_sr ?_   -- 13
            refine ol_q (wn_none rfl) (op_move (v := .pointer _) rfl) rfl ?_
            refine ol_q (wn_none rfl) (op_move (v := .slice _ _ _) rfl) rfl ?_
            refine ol_q (wn_none rfl) (op_move (v := .int _ _) rfl) rfl ?_
            refine ol_q (wn_none rfl) (op_index _ sB_22 rfl rfl rfl ((hr.cons _).cons _) rfl (by omega)) rfl ?_
            refine ol_q (wn_none rfl) (op_ldaw (L := tCallC _) ag_27 ((hr.cons _).cons _) rfl (by omega) rfl (tCallC_ta _)) rfl ?_
            refine ol_i (wn_none rfl) (os_call cb_17 rfl (fun w s => vote_calls _  s )) rfl ?_; rintro _ l ⟨rfl, rfl⟩
            refine ol_pull1 ?_
            refine ol_i (wn_none rfl) (os_call cb_18 rfl (fun w s => Take_calls _ _ _  s )) rfl ?_; rintro _ _ ⟨rfl, rfl⟩
            refine ol_nil_then ?_
            refine cd_region ?_   -- 14
            refine ol_q (wn_none rfl) (op_move (v := .pointer _) rfl) rfl ?_
            refine ol_q (wn_none rfl) (op_move (v := .slice _ _ _) rfl) rfl ?_
            refine ol_q (wn_none rfl) (op_move (v := .int _ _) rfl) rfl ?_
            refine ol_q (wn_none rfl) (op_sub rfl rfl (by omega) (by omega)) rfl ?_
            refine ol_q (wn_none rfl) (op_move (v := .int _ _) rfl) rfl ?_
            refine ol_q (wn_none rfl) (op_move (v := .int _ _) rfl) rfl ?_
            refine ol_q (wn_none rfl) (op_add rfl rfl (by omega) (by omega)) rfl ?_
            refine ol_q (wn_none rfl) (op_move (v := .int _ _) rfl) rfl ?_
            refine ol_q (wn_none rfl) (op_rem rfl rfl (by omega) (by omega)) rfl ?_
            refine ol_q (wn_none rfl) (op_sub rfl rfl (by omega) (by omega)) rfl ?_
            refine ol_q (wn_none rfl) (op_index (turned xs kt i) sB_22 rfl rfl hj2 ((hr.cons _).cons _) rfl hj1) rfl ?_
            refine ol_q (wn_none rfl) (op_ldaw (L := tCallC _) ag_27 ((hr.cons _).cons _) rfl hj1 rfl (tCallC_ta _)) rfl ?_
            refine ol_i (wn_none rfl) (os_call cb_17 rfl (fun w s => vote_calls _  s )) rfl ?_; rintro _ l ⟨rfl, rfl⟩
            refine ol_pull1 ?_
            refine ol_i (wn_none rfl) (os_call cb_18 rfl (fun w s => Take_calls _ _ _  s )) rfl ?_; rintro _ _ ⟨rfl, rfl⟩
            refine ol_nil ?_
            refine px_blockN ?_
            refine px_then ?_
            refine cd_region ?_   -- 15
            refine ol_q (wn_none rfl) (op_add rfl rfl (by omega) (by omega)) rfl ?_
            refine ol_q (wn_none rfl) (op_move (v := .int _ _) rfl) rfl ?_
            refine ol_nil ?_
            have e1 := take_all_succ xs (TabS.new n.toNat sl) i (by omega)
            have e2 := turned_all_succ xs (TabS.new n.toNat sl) kt i hj1
            refine px_loop2 (i + 1) (by omega) (by (try dsimp only); omega) ⟨congrArg (Value.int .i64) (by simp), trivial⟩ ?_ (fun _ s => (by rw [e1, e2]; exact s))
            repeat (first | exact kept_over | refine kept_upd rfl ?_ | refine kept_overS (by decide) ?_)
          · have hp6 := hb6
            (try simp only [decide_eq_true_eq, decide_eq_false_iff_not, Bool.not_eq_true', Bool.not_eq_false', ne_eq, Decidable.not_not] at hp6)
            refine cd_exit ?_
            refine px_thenE ?_
            refine px_thenE ?_
            refine px_blockE ?_
            refine px_then ?_
            refine cd_seq ?_
            refine cd_sr ?_   -- 16
            refine ol_q (wn_none rfl) (op_assign (v := .int _ _) rfl) rfl ?_
            refine ol_nil_then ?_
            refine cd_block ?_
            have hal := order_alike xs kt (n := n.toNat) (sl := sl) (by omega) (by omega) (by omega) hkt
            obtain rfl : i = xs.length := by omega
            obtain ⟨A, hAe⟩ : ∃ A, A = ((TabS.new n.toNat sl).all ((xs.map voteOf).take xs.length)) := ⟨_, rfl⟩
            obtain ⟨Bt, hBe⟩ : ∃ B, B = ((TabS.new n.toNat sl).all (turnedTo (xs.map voteOf) kt xs.length)) := ⟨_, rfl⟩
            rw [← hAe, ← hBe] at hal ⊢
            refine cd_know (φ := A.WF ∧ Bt.WF) (fun w s => ⟨(s.pull 1).tabWF, s.tabWF⟩) (fun hwf => ?_); obtain ⟨hwa, hwb⟩ := hwf
            refine cd_loop2 (α := Nat) [(8, 8), (14, 18), (90, 142)] (fun x => [(14, .int .i64 (x : Int))]) (fun _ => _) (fun x => x ≤ n.toNat) (fun x => n.toNat - x) 0 (Nat.zero_le _) ⟨rfl, trivial⟩ (fun _ s => s) ?_
            intro j hj f
            refine cd_seq ?_
            refine cd_sr ?_   -- 17
            refine ol_q (wn_none rfl) (op_move (v := .int _ _) rfl) rfl ?_
            refine ol_q (wn_none rfl) (op_move (v := .int _ _) rfl) rfl ?_
            refine ol_q (wn_none rfl) (op_lt rfl rfl) rfl ?_
            refine ol_nil_then ?_
            refine cd_cond rfl (fun hb7 => ?_) (fun hb7 => ?_)
            · have hp7 := hb7
              (try simp only [decide_eq_true_eq, decide_eq_false_iff_not, Bool.not_eq_true', Bool.not_eq_false', ne_eq, Decidable.not_not] at hp7)
              obtain ⟨e1, e2, e3⟩ := hal (j : Int)
              have hr1 := vote_slot_rg hwa (j : Int); have hr2 := vote_slot_rg hwb (j : Int)
              refine cd_skip ?_
              refine px_then ?_
              refine cd_seq ?_
              refine cd_block ?_
              refine cd_sr ?_   -- 19
              refine ol_q (wn_none rfl) (op_move (v := .pointer _) rfl) rfl ?_
              refine ol_q (wn_none rfl) (op_move (v := .int _ _) rfl) rfl ?_
              refine ol_pull1 ?_
              refine ol_i (wn_none rfl) (os_call cb_21 rfl (fun w s => TVote_calls _ _ _  s )) rfl ?_; rintro _ _ ⟨rfl, rfl⟩
              refine ol_q (wn_none rfl) (op_move (v := .tuple _) rfl) rfl ?_
              refine ol_q (wn_none rfl) (op_extract (v := .agg _) rfl rfl) rfl ?_
              refine ol_q (wn_none rfl) (op_extract (v := .bool _) rfl rfl) rfl ?_
              refine ol_i (wn_none rfl) (os_alloc (cs := (voteC Vote.zero).toArray) zB_31 (by kernel_rfl)) rfl ?_; rintro _ _ ⟨bx1, rfl, rfl⟩
              refine ol_iN (wn_none rfl) (os_storew (voteC _) ag_31 rfl rfl (voteC_len _) (voteC_one _) (by simp [voteC_len]) (Free.zero _)) ?_; rintro _ _ ⟨rfl, rfl⟩
              refine ol_q (wn_none rfl) (op_assign (v := .bool _) rfl) rfl ?_
              refine ol_nil_then ?_
              refine cd_sr ?_   -- 20
              refine ol_q (wn_none rfl) (op_move (v := .pointer _) rfl) rfl ?_
              refine ol_q (wn_none rfl) (op_move (v := .int _ _) rfl) rfl ?_
              refine ol_pull2 ?_
              refine ol_i (wn_none rfl) (os_call cb_21 rfl (fun w s => TVote_calls _ _ _  s )) rfl ?_; rintro _ _ ⟨rfl, rfl⟩
              refine ol_q (wn_none rfl) (op_move (v := .tuple _) rfl) rfl ?_
              refine ol_q (wn_none rfl) (op_extract (v := .agg _) rfl rfl) rfl ?_
              refine ol_q (wn_none rfl) (op_extract (v := .bool _) rfl rfl) rfl ?_
              refine ol_i (wn_none rfl) (os_alloc (cs := (voteC Vote.zero).toArray) zB_31 (by kernel_rfl)) rfl ?_; rintro _ _ ⟨bx2, rfl, rfl⟩
              refine ol_iN (wn_none rfl) (os_storew (voteC _) ag_31 rfl rfl (voteC_len _) (voteC_one _) (by simp [voteC_len]) (Free.zero _)) ?_; rintro _ _ ⟨rfl, rfl⟩
              refine ol_q (wn_none rfl) (op_assign (v := .bool _) rfl) rfl ?_
              refine ol_nil_then ?_
              refine cd_seq ?_
              refine cd_sr ?_   -- 21
              refine ol_q (wn_none rfl) (op_move (v := .pointer _) rfl) rfl ?_
              refine ol_q (wn_none rfl) (op_move (v := .int _ _) rfl) rfl ?_
              refine ol_pull3 ?_
              refine ol_i (wn_none rfl) (os_call cb_19 rfl (fun w s => Counts_calls _ _ _  s )) rfl ?_; rintro _ _ ⟨rfl, rfl⟩
              refine ol_q (wn_none rfl) (op_move (v := .pointer _) rfl) rfl ?_
              refine ol_q (wn_none rfl) (op_move (v := .int _ _) rfl) rfl ?_
              refine ol_pull2 ?_
              refine ol_i (wn_none rfl) (os_call cb_19 rfl (fun w s => Counts_calls _ _ _  s )) rfl ?_; rintro _ _ ⟨rfl, rfl⟩
              refine ol_q (wn_none rfl) (op_bneq Try.underlying4 rfl rfl) rfl ?_
              refine ol_q (wn_none rfl) (op_move (v := .bool _) rfl) rfl ?_
              refine ol_split 114 rfl (fun hb8 => ?_) (fun hb8 => ?_)
              · have hp8 := hb8
                (try simp only [decide_eq_true_eq, decide_eq_false_iff_not, Bool.not_eq_true', Bool.not_eq_false', ne_eq, Decidable.not_not] at hp8)
                exact absurd hb8 (by rw [e1]; simp)
              · have hp8 := hb8
                (try simp only [decide_eq_true_eq, decide_eq_false_iff_not, Bool.not_eq_true', Bool.not_eq_false', ne_eq, Decidable.not_not] at hp8)
                refine ol_q (wn_some rfl rfl rfl hb8 rfl) (op_move (v := .bool _) rfl) rfl ?_
                refine ol_q (wn_some rfl rfl rfl hb8 rfl) (op_move (v := .bool _) rfl) rfl ?_
                refine ol_q (wn_some rfl rfl rfl hb8 rfl) (op_bneq Try.underlying4 rfl rfl) rfl ?_
                refine ol_q (wn_none rfl) (op_pick_f (v := .bool _) rfl hb8 rfl) rfl ?_
                refine ol_nil_then ?_
                refine cd_cond rfl (fun hb9 => ?_) (fun hb9 => ?_)
                · have hp9 := hb9
                  (try simp only [decide_eq_true_eq, decide_eq_false_iff_not, Bool.not_eq_true', Bool.not_eq_false', ne_eq, Decidable.not_not] at hp9)
                  exact absurd hb9 (by rw [e2]; simp)
                · have hp9 := hb9
                  (try simp only [decide_eq_true_eq, decide_eq_false_iff_not, Bool.not_eq_true', Bool.not_eq_false', ne_eq, Decidable.not_not] at hp9)
                  refine cd_skip ?_
                  refine px_then ?_
                  refine cd_pull1 ?_
                  refine cd_seq ?_   -- 23
                  refine cd_draw (M := [_]) mx [2] (by kernel_rfl) ?_
                  refine rg_q (wn_none rfl) (op_move (v := .pointer _) rfl) rfl rfl ?_
                  refine rg_q (wn_none rfl) (op_move (v := .int _ _) rfl) rfl rfl ?_
                  refine rg_i (wn_none rfl) (os_call cb_19 rfl (fun w s => Counts_calls _ _ _  s )) rfl rfl ?_; rintro _ _ ⟨rfl, rfl⟩; refine ⟨[_], rfl, ?_⟩
                  refine rg_q (wn_none rfl) (op_move (v := .bool _) rfl) rfl rfl ?_
                  refine rg_split 122 rfl (fun hb10 => ?_) (fun hb10 => ?_)
                  · have hp10 := hb10
                    (try simp only [decide_eq_true_eq, decide_eq_false_iff_not, Bool.not_eq_true', Bool.not_eq_false', ne_eq, Decidable.not_not] at hp10)
                    have hcnt := hb10
                    refine rg_q (wn_some rfl rfl rfl hb10 rfl) (op_move (v := .bool _) rfl) rfl rfl ?_
                    refine rg_q (wn_none rfl) (op_pick_t (v := .bool _) rfl hb10 rfl) rfl rfl ?_
                    refine rg_q (wn_none rfl) (op_move (v := .bool _) rfl) rfl rfl ?_
                    refine rg_split 125 rfl (fun hb11 => ?_) (fun hb11 => ?_)
                    · have hp11 := hb11
                      (try simp only [decide_eq_true_eq, decide_eq_false_iff_not, Bool.not_eq_true', Bool.not_eq_false', ne_eq, Decidable.not_not] at hp11)
                      obtain ⟨y1, hy1⟩ := Option.isSome_iff_exists.1 hb11
                      obtain ⟨y2, hy2⟩ := Option.isSome_iff_exists.1 (e2 ▸ hb11)
                      have e4 := e3 hcnt y1 y2 hy1 hy2
                      have hs1 : ((A.vote (j : Int)).getD Vote.zero) = y1 := by rw [hy1]; rfl
                      have hs2 : ((Bt.vote (j : Int)).getD Vote.zero) = y2 := by rw [hy2]; rfl
                      refine rg_q (wn_some rfl rfl rfl hb11 rfl) (op_field fld_31_1 rfl) rfl rfl ?_
                      refine rg_q (wn_some rfl rfl rfl hb11 rfl) (op_ld 2 sc_3 rfl rfl (voteC_a1 _)) rfl rfl ?_
                      refine rg_q (wn_some rfl rfl rfl hb11 rfl) (op_move (v := .int _ _) rfl) rfl rfl ?_
                      refine rg_q (wn_some rfl rfl rfl hb11 rfl) (op_quo rfl rfl (by omega) (by omega) (by omega)) rfl rfl ?_
                      refine rg_q (wn_some rfl rfl rfl hb11 rfl) (op_field fld_31_1 rfl) rfl rfl ?_
                      refine rg_q (wn_some rfl rfl rfl hb11 rfl) (op_ld 1 sc_3 rfl rfl (voteC_a1 _)) rfl rfl ?_
                      refine rg_q (wn_some rfl rfl rfl hb11 rfl) (op_move (v := .int _ _) rfl) rfl rfl ?_
                      refine rg_q (wn_some rfl rfl rfl hb11 rfl) (op_quo rfl rfl (by omega) (by omega) (by omega)) rfl rfl ?_
                      refine rg_q (wn_some rfl rfl rfl hb11 rfl) (op_ne rfl rfl) rfl rfl ?_
                      refine rg_q (wn_some rfl rfl rfl hb11 rfl) (op_move (v := .bool _) rfl) rfl rfl ?_
                      refine rg_split 135 rfl (fun hb12 => ?_) (fun hb12 => ?_)
                      · have hp12 := hb12
                        (try simp only [decide_eq_true_eq, decide_eq_false_iff_not, Bool.not_eq_true', Bool.not_eq_false', ne_eq, Decidable.not_not] at hp12)
                        exact absurd hb12 (by rw [hs1, hs2]; simp [e4.1])
                      · have hp12 := hb12
                        (try simp only [decide_eq_true_eq, decide_eq_false_iff_not, Bool.not_eq_true', Bool.not_eq_false', ne_eq, Decidable.not_not] at hp12)
                        refine rg_q (wn_some rfl rfl rfl hb12 rfl) (op_field fld_31_2 rfl) rfl rfl ?_
                        refine rg_q (wn_some rfl rfl rfl hb12 rfl) (op_lda (L := rootC _) 2 ag_29 rfl rfl (voteC_af2 _) (by simp [voteC_len])) rfl rfl ?_
                        refine rg_q (wn_some rfl rfl rfl hb12 rfl) (op_field fld_31_2 rfl) rfl rfl ?_
                        refine rg_q (wn_some rfl rfl rfl hb12 rfl) (op_lda (L := rootC _) 1 ag_29 rfl rfl (voteC_af2 _) (by simp [voteC_len])) rfl rfl ?_
                        refine rg_q (wn_some rfl rfl rfl hb12 rfl) (op_neroot _ _ rB_29 rfl rfl) rfl rfl ?_
                        refine rg_q (wn_some rfl rfl rfl hb11 rfl) (op_pick_f (v := .bool _) rfl hb12 rfl) rfl rfl ?_
                        refine rg_q (wn_none rfl) (op_pick_t (v := .bool _) rfl hb11 rfl) rfl rfl ?_
                        refine rg_nil_then1 ?_
                        refine cd_cond rfl (fun hb13 => ?_) (fun hb13 => ?_)
                        · have hp13 := hb13
                          (try simp only [decide_eq_true_eq, decide_eq_false_iff_not, Bool.not_eq_true', Bool.not_eq_false', ne_eq, Decidable.not_not] at hp13)
                          exact absurd hb13 (by rw [hs1, hs2]; simp [e4.2])
                        · have hp13 := hb13
                          (try simp only [decide_eq_true_eq, decide_eq_false_iff_not, Bool.not_eq_true', Bool.not_eq_false', ne_eq, Decidable.not_not] at hp13)
                          refine cd_skip ?_
                          refine px_blockN ?_
                          refine px_then ?_
                          refine cd_region ?_   -- 18
                          refine ol_q (wn_none rfl) (op_move (v := .int _ _) rfl) rfl ?_
                          refine ol_q (wn_none rfl) (op_add rfl rfl (by omega) (by omega)) rfl ?_
                          refine ol_q (wn_none rfl) (op_assign (v := .int _ _) rfl) rfl ?_
                          refine ol_nil ?_
                          refine px_loop2 (j + 1) (by omega) (by (try dsimp only); omega) ⟨congrArg (Value.int .i64) (by simp), trivial⟩ ?_ (fun _ s => (((s.del 3).del 2).pull 1))
                          repeat (first | exact kept_over | refine kept_upd rfl ?_ | refine kept_overS (by decide) ?_)
                    · have hp11 := hb11
                      (try simp only [decide_eq_true_eq, decide_eq_false_iff_not, Bool.not_eq_true', Bool.not_eq_false', ne_eq, Decidable.not_not] at hp11)
                      refine rg_skip (wn_some rfl rfl rfl hb11 rfl) rfl ?_
                      refine rg_skip (wn_some rfl rfl rfl hb11 rfl) rfl ?_
                      refine rg_skip (wn_some rfl rfl rfl hb11 rfl) rfl ?_
                      refine rg_skip (wn_some rfl rfl rfl hb11 rfl) rfl ?_
                      refine rg_skip (wn_some rfl rfl rfl hb11 rfl) rfl ?_
                      refine rg_skip (wn_some rfl rfl rfl hb11 rfl) rfl ?_
                      refine rg_skip (wn_some rfl rfl rfl hb11 rfl) rfl ?_
                      refine rg_skip (wn_some rfl rfl rfl hb11 rfl) rfl ?_
                      refine rg_skip (wn_some rfl rfl rfl hb11 rfl) rfl ?_
                      refine rg_skip (wn_some rfl rfl rfl hb11 rfl) rfl ?_
                      refine rg_skip (wn_undef rfl rfl rfl rfl) rfl ?_
                      refine rg_skip (wn_undef rfl rfl rfl rfl) rfl ?_
                      refine rg_skip (wn_undef rfl rfl rfl rfl) rfl ?_
                      refine rg_skip (wn_undef rfl rfl rfl rfl) rfl ?_
                      refine rg_skip (wn_undef rfl rfl rfl rfl) rfl ?_
                      refine rg_skip (wn_some rfl rfl rfl hb11 rfl) rfl ?_
                      refine rg_q (wn_none rfl) (op_pick_f (v := .bool _) rfl hb11 rfl) rfl rfl ?_
                      refine rg_nil_then1 ?_
                      refine cd_cond_f rfl rfl ?_
                      refine cd_skip ?_
                      refine px_blockN ?_
                      refine px_then ?_
                      refine cd_region ?_   -- 18
                      refine ol_q (wn_none rfl) (op_move (v := .int _ _) rfl) rfl ?_
                      refine ol_q (wn_none rfl) (op_add rfl rfl (by omega) (by omega)) rfl ?_
                      refine ol_q (wn_none rfl) (op_assign (v := .int _ _) rfl) rfl ?_
                      refine ol_nil ?_
                      refine px_loop2 (j + 1) (by omega) (by (try dsimp only); omega) ⟨congrArg (Value.int .i64) (by simp), trivial⟩ ?_ (fun _ s => (((s.del 3).del 2).pull 1))
                      repeat (first | exact kept_over | refine kept_upd rfl ?_ | refine kept_overS (by decide) ?_)
                  · have hp10 := hb10
                    (try simp only [decide_eq_true_eq, decide_eq_false_iff_not, Bool.not_eq_true', Bool.not_eq_false', ne_eq, Decidable.not_not] at hp10)
                    refine rg_skip (wn_some rfl rfl rfl hb10 rfl) rfl ?_
                    refine rg_q (wn_none rfl) (op_pick_f (v := .bool _) rfl hb10 rfl) rfl rfl ?_
                    refine rg_q (wn_none rfl) (op_move (v := .bool _) rfl) rfl rfl ?_
                    refine rg_skip (wn_some rfl rfl rfl rfl rfl) rfl ?_
                    refine rg_skip (wn_some rfl rfl rfl rfl rfl) rfl ?_
                    refine rg_skip (wn_some rfl rfl rfl rfl rfl) rfl ?_
                    refine rg_skip (wn_some rfl rfl rfl rfl rfl) rfl ?_
                    refine rg_skip (wn_some rfl rfl rfl rfl rfl) rfl ?_
                    refine rg_skip (wn_some rfl rfl rfl rfl rfl) rfl ?_
                    refine rg_skip (wn_some rfl rfl rfl rfl rfl) rfl ?_
                    refine rg_skip (wn_some rfl rfl rfl rfl rfl) rfl ?_
                    refine rg_skip (wn_some rfl rfl rfl rfl rfl) rfl ?_
                    refine rg_skip (wn_some rfl rfl rfl rfl rfl) rfl ?_
                    refine rg_skip (wn_undef rfl rfl rfl rfl) rfl ?_
                    refine rg_skip (wn_undef rfl rfl rfl rfl) rfl ?_
                    refine rg_skip (wn_undef rfl rfl rfl rfl) rfl ?_
                    refine rg_skip (wn_undef rfl rfl rfl rfl) rfl ?_
                    refine rg_skip (wn_undef rfl rfl rfl rfl) rfl ?_
                    refine rg_skip (wn_some rfl rfl rfl rfl rfl) rfl ?_
                    refine rg_q (wn_none rfl) (op_pick_f (v := .bool _) rfl rfl rfl) rfl rfl ?_
                    refine rg_nil_then1 ?_
                    refine cd_cond_f rfl rfl ?_
                    refine cd_skip ?_
                    refine px_blockN ?_
                    refine px_then ?_
                    refine cd_region ?_   -- 18
                    refine ol_q (wn_none rfl) (op_move (v := .int _ _) rfl) rfl ?_
                    refine ol_q (wn_none rfl) (op_add rfl rfl (by omega) (by omega)) rfl ?_
                    refine ol_q (wn_none rfl) (op_assign (v := .int _ _) rfl) rfl ?_
                    refine ol_nil ?_
                    refine px_loop2 (j + 1) (by omega) (by (try dsimp only); omega) ⟨congrArg (Value.int .i64) (by simp), trivial⟩ ?_ (fun _ s => (((s.del 3).del 2).pull 1))
                    repeat (first | exact kept_over | refine kept_upd rfl ?_ | refine kept_overS (by decide) ?_)
            · have hp7 := hb7
              (try simp only [decide_eq_true_eq, decide_eq_false_iff_not, Bool.not_eq_true', Bool.not_eq_false', ne_eq, Decidable.not_not] at hp7)
              refine cd_exit ?_
              refine px_thenE ?_
              refine px_thenE ?_
              refine px_blockE ?_
              refine px_then ?_
              refine cd_sr ?_   -- 25
              refine ol_q (wn_none rfl) (op_assign (v := .bool _) rfl) rfl ?_
              refine ol_nil_then ?_
              refine cd_ret ?_
              exact px_ret1 rfl (v := .bool _) rfl (fun _ s => ((s.del 1).del 0)) ⟨congrArg Value.bool (by first | rfl | (simp; omega)), rfl⟩
end Go.SL

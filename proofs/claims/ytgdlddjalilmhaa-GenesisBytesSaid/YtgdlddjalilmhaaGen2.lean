import Derived.Test.YtgdlddjalilmhaaMGen2
import Derived.Test.YtgdlddjalilmhaaGen
import Derived.Test.YtgdlddjalilmhaaLe
set_option linter.unusedVariables false
set_option linter.unusedSimpArgs false
namespace Go.SL
open Go.Proofs

set_option maxRecDepth 100000 in
set_option maxHeartbeats 1000000 in
theorem RTotal_calls {w0 w : World} {l : List HProp} (ao : Option Addr) (c : Nat) (xs : List Val) (hs : Sat w0 w (l)) (hr : Rds w0 l encVal ao xs) (hxl : xs.length ≤ 1000000) (hq : ∀ y ∈ xs, I64 y.stake ∧ y.key.length ≤ maxLen) :
    Calls Try.prog 18 #[.slice ao xs.length c] w (Ret w0 fun v l' => v = .tuple #[.int .i64 ((totF 0 xs).getD 0), .bool (totF 0 xs).isSome] ∧ l' = l) := by
  refine calls_enter Try.func18 rfl rfl rfl hs ?_
  refine cd_sr ?_   -- 0
  refine ol_q (wn_none rfl) (op_assign (v := .int _ _) rfl) rfl ?_
  refine ol_q (wn_none rfl) (op_assign (v := .bool _) rfl) rfl ?_
  refine ol_nil_then ?_
  refine cd_sr ?_   -- 1
  refine ol_q (wn_none rfl) (op_assign (v := .int _ _) rfl) rfl ?_
  refine ol_nil_then ?_
  refine cd_seq ?_
  refine cd_sr ?_   -- 2
  refine ol_q (wn_none rfl) (op_move (v := .slice _ _ _) rfl) rfl ?_
  refine ol_q (wn_none rfl) (op_len_slice Try.underlying22 rfl) rfl ?_
  refine ol_q (wn_none rfl) (op_move (v := .int _ _) rfl) rfl ?_
  refine ol_nil_then ?_
  refine cd_block ?_
  refine cd_loop2 (α := Nat × Nat) [(2, 4), (6, 6), (9, 35)] (fun x => [(4, .int .u64 (x.2 : Int)), (9, .int .i64 (x.1 : Int))]) (fun _ => _) (fun x => x.1 ≤ xs.length ∧ x.2 < 4611686018427387904 ∧ totF 0 xs = totF (x.2 : Int) (xs.drop x.1)) (fun x => xs.length - x.1) (0, 0) ⟨Nat.zero_le _, by decide, rfl⟩ ⟨rfl, rfl, trivial⟩ (fun _ s => s) ?_
  rintro ⟨i, s⟩ ⟨hi, hs1, heq⟩ f; (try dsimp only at hi hs1 heq ⊢)
  refine cd_sr ?_   -- 3
  refine ol_q (wn_none rfl) (op_lt rfl rfl) rfl ?_
  refine ol_nil_then ?_
  refine cd_seq ?_
  refine cd_cond rfl (fun hb1 => ?_) (fun hb1 => ?_)
  · have hp1 := hb1
    (try simp only [decide_eq_true_eq, decide_eq_false_iff_not, Bool.not_eq_true', Bool.not_eq_false', ne_eq, Decidable.not_not] at hp1)
    refine cd_skip ?_
    refine px_then ?_
    refine cd_seq ?_
    refine cd_block ?_
    refine cd_sr ?_   -- 4
    refine ol_q (wn_none rfl) (op_index _ sB_22 rfl rfl rfl hr rfl (by omega)) rfl ?_
    refine ol_q (wn_none rfl) (op_ldaw (L := valC _) ag_60 hr rfl (by omega) rfl (valC_ta _)) rfl ?_
    refine ol_i (wn_none rfl) (os_alloc (cs := (valC Val.zero).toArray) zB_60 (by kernel_rfl)) rfl ?_; rintro _ _ ⟨bx1, rfl, rfl⟩
    refine ol_iN (wn_none rfl) (os_storew (valC _) ag_60 rfl rfl (valC_len _) (valC_one _) (by simp [valC_len]) (Free.zero _)) ?_; rintro _ _ ⟨rfl, rfl⟩
    refine ol_nil_then ?_
    refine cd_seq ?_
    refine cd_sr ?_   -- 5
    refine ol_q (wn_none rfl) (op_field fld_60_0 rfl) rfl ?_
    refine ol_q (wn_none rfl) (op_ld 0 sc_3 rfl rfl (valC_a0 _)) rfl ?_
    refine ol_q (wn_none rfl) (op_lt rfl rfl) rfl ?_
    refine ol_q (wn_none rfl) (op_move (v := .bool _) rfl) rfl ?_
    refine ol_split 16 rfl (fun hb2 => ?_) (fun hb2 => ?_)
    · have hp2 := hb2
      (try simp only [decide_eq_true_eq, decide_eq_false_iff_not, Bool.not_eq_true', Bool.not_eq_false', ne_eq, Decidable.not_not] at hp2)
      have hvo : ¬ valOK xs[i] = true := fun h => by have h4 := of_decide_eq_true h; have h3 := of_decide_eq_true hb2; omega
      refine ol_skip (wn_some rfl rfl rfl hb2 rfl) rfl ?_
      refine ol_skip (wn_some rfl rfl rfl hb2 rfl) rfl ?_
      refine ol_skip (wn_some rfl rfl rfl hb2 rfl) rfl ?_
      refine ol_skip (wn_some rfl rfl rfl hb2 rfl) rfl ?_
      refine ol_q (wn_none rfl) (op_pick_t (v := .bool _) rfl hb2 rfl) rfl ?_
      refine ol_q (wn_none rfl) (op_move (v := .bool _) rfl) rfl ?_
      refine ol_skip (wn_some rfl rfl rfl rfl rfl) rfl ?_
      refine ol_skip (wn_some rfl rfl rfl rfl rfl) rfl ?_
      refine ol_skip (wn_some rfl rfl rfl rfl rfl) rfl ?_
      refine ol_skip (wn_some rfl rfl rfl rfl rfl) rfl ?_
      refine ol_q (wn_none rfl) (op_pick_t (v := .bool _) rfl rfl rfl) rfl ?_
      refine ol_nil_then ?_
      refine cd_cond_t rfl rfl ?_
      refine cd_sr ?_   -- 6
      refine ol_q (wn_none rfl) (op_assign (v := .int _ _) rfl) rfl ?_
      refine ol_q (wn_none rfl) (op_assign (v := .bool _) rfl) rfl ?_
      refine ol_nil_then ?_
      refine cd_ret ?_
      refine px_thenR ?_
      refine px_blockR ?_
      refine px_thenR ?_
      refine px_thenR ?_
      refine px_blockR ?_
      refine px_thenR ?_
      have e : totF 0 xs = none := by rw [heq, totF_drop (by omega), if_neg (fun h => hvo h.1)]
      rw [e]
      exact px_ret2 rfl (v1 := .int _ _) (v2 := .bool _) rfl rfl (fun _ s => (s.del 0)) ⟨rfl, rfl⟩
    · have hp2 := hb2
      (try simp only [decide_eq_true_eq, decide_eq_false_iff_not, Bool.not_eq_true', Bool.not_eq_false', ne_eq, Decidable.not_not] at hp2)
      refine ol_q (wn_some rfl rfl rfl hb2 rfl) (op_field fld_60_1 rfl) rfl ?_
      refine ol_q (wn_some rfl rfl rfl hb2 rfl) (op_ld 0 sc_9 rfl rfl (valC_a1 _)) rfl ?_
      refine ol_q (wn_some rfl rfl rfl hb2 rfl) (op_len_string Try.underlying9 rfl) rfl ?_
      refine ol_q (wn_some rfl rfl rfl hb2 rfl) (op_lt rfl rfl) rfl ?_
      refine ol_q (wn_none rfl) (op_pick_f (v := .bool _) rfl hb2 rfl) rfl ?_
      refine ol_q (wn_none rfl) (op_move (v := .bool _) rfl) rfl ?_
      refine ol_split 22 rfl (fun hb3 => ?_) (fun hb3 => ?_)
      · have hp3 := hb3
        (try simp only [decide_eq_true_eq, decide_eq_false_iff_not, Bool.not_eq_true', Bool.not_eq_false', ne_eq, Decidable.not_not] at hp3)
        have hvo : ¬ valOK xs[i] = true := fun h => by have h4 := of_decide_eq_true h; have h3 := of_decide_eq_true hb3; omega
        refine ol_skip (wn_some rfl rfl rfl hb3 rfl) rfl ?_
        refine ol_skip (wn_some rfl rfl rfl hb3 rfl) rfl ?_
        refine ol_skip (wn_some rfl rfl rfl hb3 rfl) rfl ?_
        refine ol_skip (wn_some rfl rfl rfl hb3 rfl) rfl ?_
        refine ol_q (wn_none rfl) (op_pick_t (v := .bool _) rfl hb3 rfl) rfl ?_
        refine ol_nil_then ?_
        refine cd_cond_t rfl rfl ?_
        refine cd_sr ?_   -- 6
        refine ol_q (wn_none rfl) (op_assign (v := .int _ _) rfl) rfl ?_
        refine ol_q (wn_none rfl) (op_assign (v := .bool _) rfl) rfl ?_
        refine ol_nil_then ?_
        refine cd_ret ?_
        refine px_thenR ?_
        refine px_blockR ?_
        refine px_thenR ?_
        refine px_thenR ?_
        refine px_blockR ?_
        refine px_thenR ?_
        have e : totF 0 xs = none := by rw [heq, totF_drop (by omega), if_neg (fun h => hvo h.1)]
        rw [e]
        exact px_ret2 rfl (v1 := .int _ _) (v2 := .bool _) rfl rfl (fun _ s => (s.del 0)) ⟨rfl, rfl⟩
      · have hp3 := hb3
        (try simp only [decide_eq_true_eq, decide_eq_false_iff_not, Bool.not_eq_true', Bool.not_eq_false', ne_eq, Decidable.not_not] at hp3)
        refine ol_q (wn_some rfl rfl rfl hb3 rfl) (op_field fld_60_1 rfl) rfl ?_
        refine ol_q (wn_some rfl rfl rfl hb3 rfl) (op_ld 0 sc_9 rfl rfl (valC_a1 _)) rfl ?_
        refine ol_q (wn_some rfl rfl rfl hb3 rfl) (op_len_string Try.underlying9 rfl) rfl ?_
        refine ol_q (wn_some rfl rfl rfl hb3 rfl) (op_gt rfl rfl) rfl ?_
        refine ol_q (wn_none rfl) (op_pick_f (v := .bool _) rfl hb3 rfl) rfl ?_
        refine ol_nil_then ?_
        refine cd_cond rfl (fun hb4 => ?_) (fun hb4 => ?_)
        · have hp4 := hb4
          (try simp only [decide_eq_true_eq, decide_eq_false_iff_not, Bool.not_eq_true', Bool.not_eq_false', ne_eq, Decidable.not_not] at hp4)
          have hvo : ¬ valOK xs[i] = true := fun h => by have h4 := of_decide_eq_true h; have h3 := of_decide_eq_true hb4; omega
          refine cd_sr ?_   -- 6
          refine ol_q (wn_none rfl) (op_assign (v := .int _ _) rfl) rfl ?_
          refine ol_q (wn_none rfl) (op_assign (v := .bool _) rfl) rfl ?_
          refine ol_nil_then ?_
          refine cd_ret ?_
          refine px_thenR ?_
          refine px_blockR ?_
          refine px_thenR ?_
          refine px_thenR ?_
          refine px_blockR ?_
          refine px_thenR ?_
          have e : totF 0 xs = none := by rw [heq, totF_drop (by omega), if_neg (fun h => hvo h.1)]
          rw [e]
          exact px_ret2 rfl (v1 := .int _ _) (v2 := .bool _) rfl rfl (fun _ s => (s.del 0)) ⟨rfl, rfl⟩
        · have hp4 := hb4
          (try simp only [decide_eq_true_eq, decide_eq_false_iff_not, Bool.not_eq_true', Bool.not_eq_false', ne_eq, Decidable.not_not] at hp4)
          have hvk : valOK xs[i] = true := decide_eq_true (by omega)
          have hi64 := (hq xs[i] (List.getElem_mem _)).1
          unfold I64 at hi64
          have hu : u64N xs[i].stake = xs[i].stake.toNat := u64N_nat (by omega) (by omega)
          refine cd_skip ?_
          refine px_then ?_
          refine cd_sr ?_   -- 7
          refine ol_q (wn_none rfl) (op_move (v := .int _ _) rfl) rfl ?_
          refine ol_q (wn_none rfl) (op_field fld_60_0 rfl) rfl ?_
          refine ol_q (wn_none rfl) (op_ld 0 sc_3 rfl rfl (valC_a0 _)) rfl ?_
          refine ol_q (wn_none rfl) (op_conv64i Try.underlying32 (by rw [Try.underlying3]; rfl) rfl) rfl ?_
          refine ol_q (wn_none rfl) (op_addn rfl rfl (by omega)) rfl ?_
          refine ol_q (wn_none rfl) (op_assign (v := .int _ _) rfl) rfl ?_
          refine ol_nil_then ?_
          refine cd_sr ?_   -- 8
          refine ol_q (wn_none rfl) (op_move (v := .int _ _) rfl) rfl ?_
          refine ol_q (wn_none rfl) (op_ge rfl rfl) rfl ?_
          refine ol_nil_then ?_
          refine cd_cond rfl (fun hb5 => ?_) (fun hb5 => ?_)
          · have hp5 := hb5
            (try simp only [decide_eq_true_eq, decide_eq_false_iff_not, Bool.not_eq_true', Bool.not_eq_false', ne_eq, Decidable.not_not] at hp5)
            refine cd_sr ?_   -- 9
            refine ol_q (wn_none rfl) (op_assign (v := .int _ _) rfl) rfl ?_
            refine ol_q (wn_none rfl) (op_assign (v := .bool _) rfl) rfl ?_
            refine ol_nil_then ?_
            refine cd_ret ?_
            refine px_blockR ?_
            refine px_thenR ?_
            refine px_thenR ?_
            refine px_blockR ?_
            refine px_thenR ?_
            have e : totF 0 xs = none := by rw [heq, totF_drop (by omega), if_neg (by omega)]
            rw [e]
            exact px_ret2 rfl (v1 := .int _ _) (v2 := .bool _) rfl rfl (fun _ s => (s.del 0)) ⟨rfl, rfl⟩
          · have hp5 := hb5
            (try simp only [decide_eq_true_eq, decide_eq_false_iff_not, Bool.not_eq_true', Bool.not_eq_false', ne_eq, Decidable.not_not] at hp5)
            refine cd_skip ?_
            refine px_blockN ?_
            refine px_then ?_
            refine cd_region ?_   -- 10
            refine ol_q (wn_none rfl) (op_add rfl rfl (by omega) (by omega)) rfl ?_
            refine ol_q (wn_none rfl) (op_move (v := .int _ _) rfl) rfl ?_
            refine ol_nil ?_
            have e0 : ((s + xs[i].stake.toNat : Nat) : Int) = (s : Int) + xs[i].stake := by omega
            have e1 : totF 0 xs = totF ((s + xs[i].stake.toNat : Nat) : Int) (xs.drop (i + 1)) := by rw [heq, totF_drop (by omega), if_pos ⟨hvk, by omega⟩, e0]
            refine px_loop2 (i + 1, s + xs[i].stake.toNat) ⟨by dsimp only; omega, by dsimp only; omega, e1⟩ (by (try dsimp only); omega) ⟨congrArg (Value.int .u64) (by rw [hu] <;> simp), congrArg (Value.int .i64) (by simp), trivial⟩ ?_ (fun _ s => (s.del 0))
            repeat (first | exact kept_over | refine kept_upd rfl ?_ | refine kept_overS (by decide) ?_)
  · have hp1 := hb1
    (try simp only [decide_eq_true_eq, decide_eq_false_iff_not, Bool.not_eq_true', Bool.not_eq_false', ne_eq, Decidable.not_not] at hp1)
    refine cd_exit ?_
    refine px_thenE ?_
    refine px_thenE ?_
    refine px_blockE ?_
    refine px_then ?_
    refine cd_sr ?_   -- 11
    refine ol_q (wn_none rfl) (op_move (v := .int _ _) rfl) rfl ?_
    refine ol_q (wn_none rfl) (op_convint Try.underlying3 (by rw [Try.underlying32]; rfl) rfl (by omega)) rfl ?_
    refine ol_q (wn_none rfl) (op_assign (v := .int _ _) rfl) rfl ?_
    refine ol_q (wn_none rfl) (op_assign (v := .bool _) rfl) rfl ?_
    refine ol_nil_then ?_
    refine cd_ret ?_
    have e : totF 0 xs = some (s : Int) := by rw [heq, totF_end (by omega)]
    rw [e]
    exact px_ret2 rfl (v1 := .int _ _) (v2 := .bool _) rfl rfl (fun _ s => s) ⟨rfl, rfl⟩

set_option maxRecDepth 100000 in
set_option maxHeartbeats 1000000 in
theorem Numbers_calls {w0 w : World} {l : List HProp} (ao : Option Addr) (c : Nat) (xs : List Val) (n1 n2 n3 n4 n5 n6 n7 n8 n9 n10 n11 : Int) (hs : Sat w0 w (l)) (hr : Rds w0 l encVal ao xs) :
    Calls Try.prog 43 #[.agg (cfgC ⟨⟨ao, xs.length, c⟩, n1, n2, n3, n4, n5, n6, n7, n8, n9, n10, n11⟩).toArray] w (Ret w0 fun v l' => ∃ ro rc, v = .slice ro (numsL ⟨⟨ao, xs.length, c⟩, n1, n2, n3, n4, n5, n6, n7, n8, n9, n10, n11⟩ xs.length).length rc ∧ l' = Row 3 encI64 (.slice ro (numsL ⟨⟨ao, xs.length, c⟩, n1, n2, n3, n4, n5, n6, n7, n8, n9, n10, n11⟩ xs.length).length rc) (numsL ⟨⟨ao, xs.length, c⟩, n1, n2, n3, n4, n5, n6, n7, n8, n9, n10, n11⟩ xs.length) :: l) := by
  refine calls_enter Try.func43 rfl rfl rfl hs ?_
  refine cd_sr ?_   -- 0
  refine ol_i (wn_none rfl) (os_boxa rfl) rfl ?_; rintro _ _ ⟨bx1, rfl, rfl⟩
  refine ol_q (wn_none rfl) (op_assign (v := .slice _ _ _) rfl) rfl ?_
  refine ol_nil_then ?_
  refine cd_sr ?_   -- 1
  refine ol_q (wn_none rfl) (op_field fld_24_1 rfl) rfl ?_
  refine ol_q (wn_none rfl) (op_ld 0 sc_3 rfl rfl (cfgC_a1 _)) rfl ?_
  refine ol_q (wn_none rfl) (op_field fld_24_2 rfl) rfl ?_
  refine ol_q (wn_none rfl) (op_ld 0 sc_3 rfl rfl (cfgC_a2 _)) rfl ?_
  refine ol_q (wn_none rfl) (op_field fld_24_0 rfl) rfl ?_
  refine ol_q (wn_none rfl) (op_ld 0 sc_22 rfl rfl (cfgC_a0 _)) rfl ?_
  refine ol_q (wn_none rfl) (op_len_slice Try.underlying22 rfl) rfl ?_
  refine ol_q (wn_none rfl) (op_min rfl rfl) rfl ?_
  refine ol_q (wn_none rfl) (op_field fld_24_3 rfl) rfl ?_
  refine ol_q (wn_none rfl) (op_ld 0 sc_3 rfl rfl (cfgC_a3 _)) rfl ?_
  refine ol_q (wn_none rfl) (op_field fld_24_4 rfl) rfl ?_
  refine ol_q (wn_none rfl) (op_ld 0 sc_3 rfl rfl (cfgC_a4 _)) rfl ?_
  refine ol_q (wn_none rfl) (op_field fld_24_5 rfl) rfl ?_
  refine ol_q (wn_none rfl) (op_ld 0 sc_3 rfl rfl (cfgC_a5 _)) rfl ?_
  refine ol_q (wn_none rfl) (op_field fld_24_6 rfl) rfl ?_
  refine ol_q (wn_none rfl) (op_ld 0 sc_3 rfl rfl (cfgC_a6 _)) rfl ?_
  refine ol_q (wn_none rfl) (op_field fld_24_7 rfl) rfl ?_
  refine ol_q (wn_none rfl) (op_ld 0 sc_3 rfl rfl (cfgC_a7 _)) rfl ?_
  refine ol_q (wn_none rfl) (op_field fld_24_8 rfl) rfl ?_
  refine ol_q (wn_none rfl) (op_ld 0 sc_3 rfl rfl (cfgC_a8 _)) rfl ?_
  refine ol_q (wn_none rfl) (op_field fld_24_9 rfl) rfl ?_
  refine ol_q (wn_none rfl) (op_ld 0 sc_3 rfl rfl (cfgC_a9 _)) rfl ?_
  refine ol_q (wn_none rfl) (op_field fld_24_10 rfl) rfl ?_
  refine ol_q (wn_none rfl) (op_ld 0 sc_3 rfl rfl (cfgC_a10 _)) rfl ?_
  refine ol_q (wn_none rfl) (op_field fld_24_11 rfl) rfl ?_
  refine ol_q (wn_none rfl) (op_ld 0 sc_3 rfl rfl (cfgC_a11 _)) rfl ?_
  refine ol_q (wn_none rfl) (op_field fld_24_0 rfl) rfl ?_
  refine ol_q (wn_none rfl) (op_ld 0 sc_22 rfl rfl (cfgC_a0 _)) rfl ?_
  refine ol_q (wn_none rfl) (op_len_slice Try.underlying22 rfl) rfl ?_
  refine ol_i (wn_none rfl) (os_bslice (E := encI64) [_, _, _, _, _, _, _, _, _, _, _, _, _, _, _, _, _, _, _, _, _, _, _, _] (ys := [_, _, _, _, _, _, _, _, _, _, _, _, _, _, _, _, _, _, _, _, _, _, _, _]) sB_35 zv_3 rfl rfl rfl rfl (by decide)) rfl ?_; rintro _ _ ⟨ao1, rfl, rfl⟩
  refine ol_q (wn_none rfl) (op_assign (v := .slice _ _ _) rfl) rfl ?_
  refine ol_nil_then ?_
  refine cd_ret ?_
  exact px_ret1 rfl (v := .slice _ _ _) rfl (fun _ s => (s.del 1)) ⟨_, _, rfl, rfl⟩

set_option maxRecDepth 100000 in
set_option maxHeartbeats 1000000 in
theorem Good_calls {w0 w : World} {l : List HProp} (ao : Option Addr) (c : Nat) (xs : List Val) (n1 n2 n3 n4 n5 n6 n7 n8 n9 n10 n11 : Int) (hs : Sat w0 w (l)) (hr : Rds w0 l encVal ao xs) (hxl : xs.length ≤ 1000000) :
    Calls Try.prog 19 #[.agg (cfgC ⟨⟨ao, xs.length, c⟩, n1, n2, n3, n4, n5, n6, n7, n8, n9, n10, n11⟩).toArray] w (Ret w0 fun v l' => v = .bool (goodC ⟨⟨ao, xs.length, c⟩, n1, n2, n3, n4, n5, n6, n7, n8, n9, n10, n11⟩ xs) ∧ l' = l) := by
  refine calls_enter Try.func19 rfl rfl rfl hs ?_
  refine cd_sr ?_   -- 0
  refine ol_i (wn_none rfl) (os_boxa rfl) rfl ?_; rintro _ _ ⟨bx1, rfl, rfl⟩
  refine ol_q (wn_none rfl) (op_assign (v := .bool _) rfl) rfl ?_
  refine ol_nil_then ?_
  refine cd_seq ?_
  refine cd_sr ?_   -- 1
  refine ol_q (wn_none rfl) (op_field fld_24_0 rfl) rfl ?_
  refine ol_q (wn_none rfl) (op_ld 0 sc_22 rfl rfl (cfgC_a0 _)) rfl ?_
  refine ol_i (wn_none rfl) (os_call cb_17 rfl (fun w s => Total_calls _ _ _  s (hr.cons _) (by first | omega | (simp; done) | (simp; omega)))) rfl ?_; rintro _ l ⟨rfl, rfl⟩
  refine ol_q (wn_none rfl) (op_move (v := .tuple _) rfl) rfl ?_
  refine ol_q (wn_none rfl) (op_extract (v := .int _ _) rfl rfl) rfl ?_
  refine ol_q (wn_none rfl) (op_extract (v := .bool _) rfl rfl) rfl ?_
  refine ol_q (wn_none rfl) (op_assign (v := .int _ _) rfl) rfl ?_
  refine ol_q (wn_none rfl) (op_assign (v := .bool _) rfl) rfl ?_
  refine ol_nil_then ?_
  refine cd_sr ?_   -- 2
  refine ol_q (wn_none rfl) (op_move (v := .bool _) rfl) rfl ?_
  refine ol_q (wn_none rfl) (op_not rfl) rfl ?_
  refine ol_q (wn_none rfl) (op_move (v := .bool _) rfl) rfl ?_
  refine ol_split 14 rfl (fun hb1 => ?_) (fun hb1 => ?_)
  · have hp1 := hb1
    (try simp only [decide_eq_true_eq, decide_eq_false_iff_not, Bool.not_eq_true', Bool.not_eq_false', ne_eq, Decidable.not_not] at hp1)
    refine ol_skip (wn_some rfl rfl rfl hb1 rfl) rfl ?_
    refine ol_skip (wn_some rfl rfl rfl hb1 rfl) rfl ?_
    refine ol_skip (wn_some rfl rfl rfl hb1 rfl) rfl ?_
    refine ol_skip (wn_some rfl rfl rfl hb1 rfl) rfl ?_
    refine ol_skip (wn_some rfl rfl rfl hb1 rfl) rfl ?_
    refine ol_q (wn_none rfl) (op_pick_t (v := .bool _) rfl hb1 rfl) rfl ?_
    refine ol_nil_then ?_
    refine cd_cond_t rfl rfl ?_
    refine cd_sr ?_   -- 3
    refine ol_q (wn_none rfl) (op_assign (v := .bool _) rfl) rfl ?_
    refine ol_nil_then ?_
    refine cd_ret ?_
    refine px_thenR ?_
    exact px_ret1 rfl (v := .bool _) rfl (fun _ s => (s.del 0)) ⟨congrArg Value.bool (by unfold goodC numsC; simp_all), rfl⟩
  · have hp1 := hb1
    (try simp only [decide_eq_true_eq, decide_eq_false_iff_not, Bool.not_eq_true', Bool.not_eq_false', ne_eq, Decidable.not_not] at hp1)
    refine ol_q (wn_some rfl rfl rfl hb1 rfl) (op_field fld_24_0 rfl) rfl ?_
    refine ol_q (wn_some rfl rfl rfl hb1 rfl) (op_ld 0 sc_22 rfl rfl (cfgC_a0 _)) rfl ?_
    refine ol_q (wn_some rfl rfl rfl hb1 rfl) (op_len_slice Try.underlying22 rfl) rfl ?_
    refine ol_i (wn_some rfl rfl rfl hb1 rfl) (os_call cb_41 rfl (fun w s => In_calls (b := 64) _  s )) rfl ?_; rintro _ l ⟨rfl, rfl⟩
    refine ol_q (wn_some rfl rfl rfl hb1 rfl) (op_not rfl) rfl ?_
    refine ol_q (wn_none rfl) (op_pick_f (v := .bool _) rfl hb1 rfl) rfl ?_
    refine ol_nil_then ?_
    refine cd_cond rfl (fun hb2 => ?_) (fun hb2 => ?_)
    · have hp2 := hb2
      (try simp only [decide_eq_true_eq, decide_eq_false_iff_not, Bool.not_eq_true', Bool.not_eq_false', ne_eq, Decidable.not_not] at hp2)
      refine cd_sr ?_   -- 3
      refine ol_q (wn_none rfl) (op_assign (v := .bool _) rfl) rfl ?_
      refine ol_nil_then ?_
      refine cd_ret ?_
      refine px_thenR ?_
      exact px_ret1 rfl (v := .bool _) rfl (fun _ s => (s.del 0)) ⟨congrArg Value.bool (by unfold goodC numsC; simp_all), rfl⟩
    · have hp2 := hb2
      (try simp only [decide_eq_true_eq, decide_eq_false_iff_not, Bool.not_eq_true', Bool.not_eq_false', ne_eq, Decidable.not_not] at hp2)
      refine cd_skip ?_
      refine px_then ?_
      refine cd_seq ?_   -- 4
      refine cd_drawe (M := []) mx [2, 9, 12, 15, 18, 21, 24, 27, 30, 33, 36, 37] ?_
      -- 0
      refine et_quiet 0 (by kernel_rfl) rfl (by kernel_rfl) (wn_none rfl) (op_field fld_24_1 rfl) rfl ?_
      -- 1
      refine et_quiet 1 (by kernel_rfl) rfl (by kernel_rfl) (wn_none rfl) (op_ld 0 sc_3 rfl rfl (cfgC_a1 _)) rfl ?_
      -- 3
      refine et_quiet 3 (by kernel_rfl) rfl (by kernel_rfl) (wn_none rfl) (op_field fld_24_2 rfl) rfl ?_
      -- 4
      refine et_quiet 4 (by kernel_rfl) rfl (by kernel_rfl) (wn_none rfl) (op_ld 0 sc_3 rfl rfl (cfgC_a2 _)) rfl ?_
      -- 5
      refine et_quiet 5 (by kernel_rfl) rfl (by kernel_rfl) (wn_none rfl) (op_field fld_24_0 rfl) rfl ?_
      -- 6
      refine et_quiet 6 (by kernel_rfl) rfl (by kernel_rfl) (wn_none rfl) (op_ld 0 sc_22 rfl rfl (cfgC_a0 _)) rfl ?_
      -- 7
      refine et_quiet 7 (by kernel_rfl) rfl (by kernel_rfl) (wn_none rfl) (op_len_slice Try.underlying22 rfl) rfl ?_
      -- 8
      refine et_quiet 8 (by kernel_rfl) rfl (by kernel_rfl) (wn_none rfl) (op_min rfl rfl) rfl ?_
      -- 10
      refine et_quiet 10 (by kernel_rfl) rfl (by kernel_rfl) (wn_none rfl) (op_field fld_24_3 rfl) rfl ?_
      -- 11
      refine et_quiet 11 (by kernel_rfl) rfl (by kernel_rfl) (wn_none rfl) (op_ld 0 sc_3 rfl rfl (cfgC_a3 _)) rfl ?_
      -- 13
      refine et_quiet 13 (by kernel_rfl) rfl (by kernel_rfl) (wn_none rfl) (op_field fld_24_4 rfl) rfl ?_
      -- 14
      refine et_quiet 14 (by kernel_rfl) rfl (by kernel_rfl) (wn_none rfl) (op_ld 0 sc_3 rfl rfl (cfgC_a4 _)) rfl ?_
      -- 16
      refine et_quiet 16 (by kernel_rfl) rfl (by kernel_rfl) (wn_none rfl) (op_field fld_24_5 rfl) rfl ?_
      -- 17
      refine et_quiet 17 (by kernel_rfl) rfl (by kernel_rfl) (wn_none rfl) (op_ld 0 sc_3 rfl rfl (cfgC_a5 _)) rfl ?_
      -- 19
      refine et_quiet 19 (by kernel_rfl) rfl (by kernel_rfl) (wn_none rfl) (op_field fld_24_6 rfl) rfl ?_
      -- 20
      refine et_quiet 20 (by kernel_rfl) rfl (by kernel_rfl) (wn_none rfl) (op_ld 0 sc_3 rfl rfl (cfgC_a6 _)) rfl ?_
      -- 22
      refine et_quiet 22 (by kernel_rfl) rfl (by kernel_rfl) (wn_none rfl) (op_field fld_24_7 rfl) rfl ?_
      -- 23
      refine et_quiet 23 (by kernel_rfl) rfl (by kernel_rfl) (wn_none rfl) (op_ld 0 sc_3 rfl rfl (cfgC_a7 _)) rfl ?_
      -- 25
      refine et_quiet 25 (by kernel_rfl) rfl (by kernel_rfl) (wn_none rfl) (op_field fld_24_8 rfl) rfl ?_
      -- 26
      refine et_quiet 26 (by kernel_rfl) rfl (by kernel_rfl) (wn_none rfl) (op_ld 0 sc_3 rfl rfl (cfgC_a8 _)) rfl ?_
      -- 28
      refine et_quiet 28 (by kernel_rfl) rfl (by kernel_rfl) (wn_none rfl) (op_field fld_24_9 rfl) rfl ?_
      -- 29
      refine et_quiet 29 (by kernel_rfl) rfl (by kernel_rfl) (wn_none rfl) (op_ld 0 sc_3 rfl rfl (cfgC_a9 _)) rfl ?_
      -- 31
      refine et_quiet 31 (by kernel_rfl) rfl (by kernel_rfl) (wn_none rfl) (op_field fld_24_10 rfl) rfl ?_
      -- 32
      refine et_quiet 32 (by kernel_rfl) rfl (by kernel_rfl) (wn_none rfl) (op_ld 0 sc_3 rfl rfl (cfgC_a10 _)) rfl ?_
      -- 34
      refine et_quiet 34 (by kernel_rfl) rfl (by kernel_rfl) (wn_none rfl) (op_field fld_24_11 rfl) rfl ?_
      -- 35
      refine et_quiet 35 (by kernel_rfl) rfl (by kernel_rfl) (wn_none rfl) (op_ld 0 sc_3 rfl rfl (cfgC_a11 _)) rfl ?_
      refine et_1 (i := 2) (by kernel_rfl) ?_
      refine ei_i rfl rfl (wn_none rfl) (os_call cb_41 rfl (fun w s => In_calls (b := 32) _  s )) rfl ?_; rintro _ l ⟨rfl, rfl⟩; refine ⟨[], rfl, ?_⟩
      refine et_1 (i := 9) (by kernel_rfl) ?_
      refine ei_i rfl rfl (wn_none rfl) (os_call cb_41 rfl (fun w s => In_calls _ _  s )) rfl ?_; rintro _ l ⟨rfl, rfl⟩; refine ⟨[], rfl, ?_⟩
      refine et_1 (i := 12) (by kernel_rfl) ?_
      refine ei_i rfl rfl (wn_none rfl) (os_call cb_41 rfl (fun w s => In_calls (b := 256) _  s )) rfl ?_; rintro _ l ⟨rfl, rfl⟩; refine ⟨[], rfl, ?_⟩
      refine et_1 (i := 15) (by kernel_rfl) ?_
      refine ei_i rfl rfl (wn_none rfl) (os_call cb_41 rfl (fun w s => In_calls (b := 64) _  s )) rfl ?_; rintro _ l ⟨rfl, rfl⟩; refine ⟨[], rfl, ?_⟩
      refine et_1 (i := 18) (by kernel_rfl) ?_
      refine ei_i rfl rfl (wn_none rfl) (os_call cb_41 rfl (fun w s => In_calls (b := 64) _  s )) rfl ?_; rintro _ l ⟨rfl, rfl⟩; refine ⟨[], rfl, ?_⟩
      refine et_1 (i := 21) (by kernel_rfl) ?_
      refine ei_i rfl rfl (wn_none rfl) (os_call cb_41 rfl (fun w s => In_calls (b := 64) _  s )) rfl ?_; rintro _ l ⟨rfl, rfl⟩; refine ⟨[], rfl, ?_⟩
      refine et_1 (i := 24) (by kernel_rfl) ?_
      refine ei_i rfl rfl (wn_none rfl) (os_call cb_41 rfl (fun w s => In_calls (b := 16) _  s )) rfl ?_; rintro _ l ⟨rfl, rfl⟩; refine ⟨[], rfl, ?_⟩
      refine et_1 (i := 27) (by kernel_rfl) ?_
      refine ei_i rfl rfl (wn_none rfl) (os_call cb_41 rfl (fun w s => In_calls (b := 256) _  s )) rfl ?_; rintro _ l ⟨rfl, rfl⟩; refine ⟨[], rfl, ?_⟩
      refine et_1 (i := 30) (by kernel_rfl) ?_
      refine ei_i rfl rfl (wn_none rfl) (os_call cb_41 rfl (fun w s => In_calls (b := 64) _  s )) rfl ?_; rintro _ l ⟨rfl, rfl⟩; refine ⟨[], rfl, ?_⟩
      refine et_1 (i := 33) (by kernel_rfl) ?_
      refine ei_i rfl rfl (wn_none rfl) (os_call cb_41 rfl (fun w s => In_calls (b := 1048576) _  s )) rfl ?_; rintro _ l ⟨rfl, rfl⟩; refine ⟨[], rfl, ?_⟩
      refine et_1 (i := 36) (by kernel_rfl) ?_
      refine ei_i rfl rfl (wn_none rfl) (os_call cb_41 rfl (fun w s => In_calls (b := 1048576) _  s )) rfl ?_; rintro _ l ⟨rfl, rfl⟩; refine ⟨[], rfl, ?_⟩
      refine et_1 (i := 37) (by kernel_rfl) ?_
      refine ei_i rfl rfl (wn_none rfl) (os_bslice (E := encBool) [_, _, _, _, _, _, _, _, _, _, _] (ys := [_, _, _, _, _, _, _, _, _, _, _]) sB_41 zv_4 rfl rfl rfl rfl (by decide)) rfl ?_; rintro _ _ ⟨ao1, rfl, rfl⟩; refine ⟨[_], rfl, ?_⟩
      -- 38
      refine et_quiet 38 (by kernel_rfl) rfl (by kernel_rfl) (wn_none rfl) (op_assign (v := .slice _ _ _) rfl) rfl ?_
      refine et_nil_then (by kernel_rfl) ?_
      refine cd_sr ?_   -- 5
      refine ol_q (wn_none rfl) (op_move (v := .slice _ _ _) rfl) rfl ?_
      refine ol_i (wn_none rfl) (os_call cb_42 rfl (fun w s => Contains_calls _ _ _ _  s (rds_row 0 rfl rfl) (by first | omega | (simp; done) | (simp; omega)))) rfl ?_; rintro _ l ⟨rfl, rfl⟩
      refine ol_q (wn_none rfl) (op_not rfl) rfl ?_
      refine ol_q (wn_none rfl) (op_assign (v := .bool _) rfl) rfl ?_
      refine ol_nil_then ?_
      refine cd_ret ?_
      exact px_ret1 rfl (v := .bool _) rfl (fun _ s => ((s.del 1).del 0)) ⟨congrArg Value.bool (by rw [contains_all]; unfold goodC numsC; simp_all [List.all_cons]), rfl⟩
end Go.SL

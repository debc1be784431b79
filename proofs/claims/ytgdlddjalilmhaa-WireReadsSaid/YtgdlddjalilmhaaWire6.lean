import Derived.Test.YtgdlddjalilmhaaMWire2
import Derived.Test.YtgdlddjalilmhaaWire3
import Derived.Test.YtgdlddjalilmhaaBitRef
set_option linter.unusedVariables false
set_option linter.unusedSimpArgs false
namespace Go.SL
open Go.Proofs

set_option maxRecDepth 100000 in
set_option maxHeartbeats 1000000 in
theorem RDecode_calls {w0 w : World} {l : List HProp} (src : List UInt8) (hs : Sat w0 w (l)) (hs1 : src.length ≤ 1000) :
    Calls Try.prog 26 #[.string (B src)] w (Ret w0 fun v l' => ∃ ao c, v = .tuple #[.agg (msgC ⟨(decW src).1.kind, (decW src).1.slot, (decW src).1.target, (decW src).1.member, (decW src).1.body, ⟨ao, (decW src).1.bits.length, c⟩, (decW src).1.tag⟩).toArray, .bool (decW src).2] ∧ l' = Row 4 encBool (.slice ao (decW src).1.bits.length c) (decW src).1.bits :: l) := by
  have hx1 := leNat_takeLt src 1
  have hx4 := leNat_takeLt (src.drop 1) 4
  have hx2 := leNat_takeLt (src.drop 37) 2
  have hx8 := leNat_takeLt (src.drop 39) 8
  have hkr := kindW_rg src
  refine calls_enter Try.func26 rfl rfl rfl hs ?_
  refine cd_sr ?_   -- 0
  refine ol_i (wn_none rfl) (os_alloc (cs := (msgC Msg.zero).toArray) zB_45 (by kernel_rfl)) rfl ?_; rintro _ _ ⟨bx1, rfl, rfl⟩
  refine ol_q (wn_none rfl) (op_assign (v := .bool _) rfl) rfl ?_
  refine ol_nil_then ?_
  refine cd_seq ?_
  refine cd_sr ?_   -- 1
  refine ol_q (wn_none rfl) (op_move (v := .string _) rfl) rfl ?_
  refine ol_q (wn_none rfl) (op_len_string Try.underlying9 rfl) rfl ?_
  refine ol_q (wn_none rfl) (op_lt rfl rfl) rfl ?_
  refine ol_nil_then ?_
  refine cd_cond rfl (fun hb1 => ?_) (fun hb1 => ?_)
  · have hp1 := hb1
    (try simp only [decide_eq_true_eq, decide_eq_false_iff_not, Bool.not_eq_true', Bool.not_eq_false', ne_eq, Decidable.not_not] at hp1)
    refine cd_sr ?_   -- 2
    refine ol_q (wn_none rfl) (op_build (L := msgC _) (vs := []) bB_45 rfl trivial rfl) rfl ?_
    refine ol_iN (wn_none rfl) (os_storew (msgC _) ag_45 rfl rfl (msgC_len _) (msgC_one _) (by simp [msgC_len]) (Free.zero _)) ?_; rintro _ _ ⟨rfl, rfl⟩
    refine ol_q (wn_none rfl) (op_assign (v := .bool _) rfl) rfl ?_
    refine ol_nil_then ?_
    refine cd_ret ?_
    refine px_thenR ?_
    have hd : decW src = (MsgP.zero, false) := dec_short (by omega)
    exact px_rv2 rfl (rv_cella 0 ag_45 rfl rfl (msgC_ta _) (by simp [msgC_len])) (rv_tmp rfl) (fun _ s => Sat.rowNil (s.del 0)) ⟨none, 0, by rw [hd]; rfl, by rw [hd]; rfl⟩
  · have hp1 := hb1
    (try simp only [decide_eq_true_eq, decide_eq_false_iff_not, Bool.not_eq_true', Bool.not_eq_false', ne_eq, Decidable.not_not] at hp1)
    have h54 : 54 ≤ src.length := by omega
    refine cd_skip ?_
    refine px_then ?_
    refine cd_sr ?_   -- 3
    refine ol_q (wn_none rfl) (op_move (v := .string _) rfl) rfl ?_
    refine ol_q (wn_none rfl) (op_build (L := [_, _, _]) (vs := [(0, .string _)]) bB_75 rfl ⟨⟨rfl, rfl⟩, trivial⟩ rfl) rfl ?_
    refine ol_i (wn_none rfl) (os_boxa rfl) rfl ?_; rintro _ _ ⟨bx2, rfl, rfl⟩
    refine ol_q (wn_none rfl) (op_assign (v := .pointer _) rfl) rfl ?_
    refine ol_nil_then ?_
    rw [RfObj_mk (p := bx2) (s := src) (r := stR src 0) (a := 0) (b := false) (by rw [stR_zero]; simp) (by rw [stR_zero])]
    refine cd_sr ?_   -- 4
    refine ol_i (wn_none rfl) (os_alloc (cs := (msgC Msg.zero).toArray) zB_45 (by kernel_rfl)) rfl ?_; rintro _ _ ⟨bx3, rfl, rfl⟩
    refine ol_nil_then ?_
    refine cd_sr ?_   -- 5
    refine ol_q (wn_none rfl) (op_move (v := .pointer _) rfl) rfl ?_
    refine ol_pull1 ?_
    refine ol_i (wn_none rfl) (os_call cb_51 rfl (fun w s => RUint_calls (n := 1) _ _ _  s (stR_suf _ _) (by omega))) rfl ?_; rintro _ _ ⟨rfl, rfl⟩; rw [stU0 (by omega)]
    refine ol_q (wn_none rfl) (op_convint Try.underlying3 (by rw [Try.underlying32]; rfl) rfl (by omega)) rfl ?_
    refine ol_q (wn_none rfl) (op_field fld_45_0 rfl) rfl ?_
    refine ol_pull1 ?_
    refine ol_iN (wn_none rfl) (os_store (v := .int _ _) sc_3 rfl rfl rfl (by simp [msgC_len]) (Free.zero _) (msgC_s0 _ _)) ?_; rintro _ _ ⟨rfl, rfl⟩
    refine ol_nil_then ?_
    refine cd_sr ?_   -- 6
    refine ol_q (wn_none rfl) (op_move (v := .pointer _) rfl) rfl ?_
    refine ol_pull1 ?_
    refine ol_i (wn_none rfl) (os_call cb_51 rfl (fun w s => RUint_calls (n := 4) _ _ _  s (stR_suf _ _) (by omega))) rfl ?_; rintro _ _ ⟨rfl, rfl⟩; rw [show rdUint (stR src 1) 4 = _ from stU src 1 4 (by decide) (by omega)]
    refine ol_q (wn_none rfl) (op_convint Try.underlying3 (by rw [Try.underlying32]; rfl) rfl (by omega)) rfl ?_
    refine ol_q (wn_none rfl) (op_field fld_45_1 rfl) rfl ?_
    refine ol_pull1 ?_
    refine ol_iN (wn_none rfl) (os_store (v := .int _ _) sc_3 rfl rfl rfl (by simp [msgC_len]) (Free.zero _) (msgC_s1 _ _)) ?_; rintro _ _ ⟨rfl, rfl⟩
    refine ol_nil_then ?_
    refine cd_seq ?_
    refine cd_sr ?_   -- 7
    refine ol_q (wn_none rfl) (op_move (v := .int _ _) rfl) rfl ?_
    refine ol_nil_then ?_
    refine cd_block ?_
    refine cd_pull1 ?_
    refine cd_loop2 (α := Nat) [(6, 6), (26, 35)] (fun x => [(26, .int .i64 (x : Int))]) (fun x => RfObj bx2 src (stR src (5 + x)) :: Blk bx3 (.cells (msgC ⟨kindW src, slotW src, tgS src x, 0, 0, ⟨none, 0, 0⟩, Tag.zero⟩).toArray 45 (0, 0)) :: _) (fun x => x ≤ 32) (fun x => 32 - x) 0 (Nat.zero_le _) ⟨rfl, trivial⟩ (fun _ s => by (try dsimp only); rw [tgS_zero]; exact s) ?_
    rintro i hi f; (try dsimp only at hi ⊢)
    refine cd_sr ?_   -- 8
    refine ol_q (wn_none rfl) (op_lt rfl rfl) rfl ?_
    refine ol_nil_then ?_
    refine cd_seq ?_
    refine cd_cond rfl (fun hb2 => ?_) (fun hb2 => ?_)
    · have hp2 := hb2
      (try simp only [decide_eq_true_eq, decide_eq_false_iff_not, Bool.not_eq_true', Bool.not_eq_false', ne_eq, Decidable.not_not] at hp2)
      have hi1 : i < 32 := by omega
      refine cd_skip ?_
      refine px_then ?_
      refine cd_seq ?_
      refine cd_block ?_
      refine cd_sr ?_   -- 9
      refine ol_q (wn_none rfl) (op_move (v := .int _ _) rfl) rfl ?_
      refine ol_q (wn_none rfl) (op_assign (v := .int _ _) rfl) rfl ?_
      refine ol_nil_then ?_
      refine cd_region ?_   -- 10
      refine ol_q (wn_none rfl) (op_move (v := .int _ _) rfl) rfl ?_
      refine ol_q (wn_none rfl) (op_move (v := .pointer _) rfl) rfl ?_
      refine ol_i (wn_none rfl) (os_call cb_51 rfl (fun w s => RUint_calls (n := 1) _ _ _  s (stR_suf _ _) (by omega))) rfl ?_; rintro _ _ ⟨rfl, rfl⟩; rw [stU1]
      refine ol_q (wn_none rfl) (op_conv8 Try.underlying5 (by rw [Try.underlying32]; rfl) rfl) rfl ?_
      refine ol_q (wn_none rfl) (op_field fld_45_2 rfl) rfl ?_
      refine ol_q (wn_none rfl) (op_aidx _ a1_40 rfl rfl rfl (by omega)) rfl ?_
      refine ol_pull1 ?_
      refine ol_iN (wn_none rfl) (os_store (v := .int _ _) sc_5 rfl rfl rfl (Nat.ble_eq_true_of_le (by simp [msgC_len]; omega)) (Free.zero _) (msg_tset src _ _ _ _ _ _ hi1)) ?_; rintro _ _ ⟨rfl, rfl⟩
      refine ol_nil ?_
      refine px_blockN ?_
      refine px_then ?_
      refine cd_region ?_   -- 11
      refine ol_q (wn_none rfl) (op_add rfl rfl (by omega) (by omega)) rfl ?_
      refine ol_q (wn_none rfl) (op_move (v := .int _ _) rfl) rfl ?_
      refine ol_nil ?_
      refine px_loop2 (i + 1) (by omega) (by (try dsimp only); omega) ⟨congrArg (Value.int .i64) (by simp), trivial⟩ ?_ (fun _ s => (((s.pull 2).pull 1).pull 2))
      repeat (first | exact kept_over | refine kept_upd rfl ?_ | refine kept_overS (by decide) ?_)
    · have hp2 := hb2
      (try simp only [decide_eq_true_eq, decide_eq_false_iff_not, Bool.not_eq_true', Bool.not_eq_false', ne_eq, Decidable.not_not] at hp2)
      have hi : i = 32 := by omega
      rw [hi, tgS_all (by omega), show 5 + 32 = 37 from rfl]
      refine cd_exit ?_
      refine px_thenE ?_
      refine px_thenE ?_
      refine px_blockE ?_
      refine px_then ?_
      refine cd_sr ?_   -- 12
      refine ol_q (wn_none rfl) (op_move (v := .string _) rfl) rfl ?_
      refine ol_q (wn_none rfl) (op_len_string Try.underlying9 rfl) rfl ?_
      refine ol_q (wn_none rfl) (op_sub rfl rfl (by omega) (by omega)) rfl ?_
      refine ol_q (wn_none rfl) (op_sub rfl rfl (by omega) (by omega)) rfl ?_
      refine ol_q (wn_none rfl) (op_assign (v := .int _ _) rfl) rfl ?_
      refine ol_nil_then ?_
      refine cd_seq ?_
      refine cd_sr ?_   -- 13
      refine ol_q (wn_none rfl) (op_field fld_45_0 rfl) rfl ?_
      refine ol_q (wn_none rfl) (op_ld 1 sc_3 rfl rfl (show (msgC _).toArray[0]? = some (.int .i64 (kindW src)) from msgC_a0 _)) rfl ?_
      refine ol_q (wn_none rfl) (op_eq rfl rfl) rfl ?_
      refine ol_q (wn_none rfl) (op_move (v := .bool _) rfl) rfl ?_
      refine ol_split 43 rfl (fun hb3 => ?_) (fun hb3 => ?_)
      · have hp3 := hb3
        (try simp only [decide_eq_true_eq, decide_eq_false_iff_not, Bool.not_eq_true', Bool.not_eq_false', ne_eq, Decidable.not_not] at hp3)
        have hk1 : kindW src = 1 := by omega
        refine ol_skip (wn_some rfl rfl rfl hb3 rfl) rfl ?_
        refine ol_skip (wn_some rfl rfl rfl hb3 rfl) rfl ?_
        refine ol_skip (wn_some rfl rfl rfl hb3 rfl) rfl ?_
        refine ol_q (wn_none rfl) (op_pick_t (v := .bool _) rfl hb3 rfl) rfl ?_
        refine ol_nil_then ?_
        refine cd_cond_t rfl rfl ?_
        refine cd_sr ?_   -- 14
        refine ol_q (wn_none rfl) (op_move (v := .pointer _) rfl) rfl ?_
        refine ol_i (wn_none rfl) (os_call cb_51 rfl (fun w s => RUint_calls (n := 2) _ _ _  s (stR_suf _ _) (by omega))) rfl ?_; rintro _ _ ⟨rfl, rfl⟩; rw [show rdUint (stR src 37) 2 = _ from stU src 37 2 (by decide) (by omega)]
        refine ol_q (wn_none rfl) (op_convint Try.underlying3 (by rw [Try.underlying32]; rfl) rfl (by omega)) rfl ?_
        refine ol_q (wn_none rfl) (op_field fld_45_3 rfl) rfl ?_
        refine ol_pull1 ?_
        refine ol_iN (wn_none rfl) (os_store (v := .int _ _) sc_3 rfl rfl rfl (by simp [msgC_len]) (Free.zero _) (msgC_s34 _ _)) ?_; rintro _ _ ⟨rfl, rfl⟩
        refine ol_nil_then ?_
        refine cd_region ?_   -- 15
        refine ol_q (wn_none rfl) (op_move (v := .int _ _) rfl) rfl ?_
        refine ol_q (wn_none rfl) (op_sub rfl rfl (by omega) (by omega)) rfl ?_
        refine ol_q (wn_none rfl) (op_assign (v := .int _ _) rfl) rfl ?_
        refine ol_nil ?_
        refine px_then ?_
        refine cd_seq ?_
        refine cd_sr ?_   -- 16
        refine ol_q (wn_none rfl) (op_field fld_45_0 rfl) rfl ?_
        refine ol_q (wn_none rfl) (op_ld 0 sc_3 rfl rfl (show (msgC _).toArray[0]? = some (.int .i64 (kindW src)) from msgC_a0 _)) rfl ?_
        refine ol_q (wn_none rfl) (op_eq rfl rfl) rfl ?_
        refine ol_nil_then ?_
        refine cd_cond rfl (fun hb4 => ?_) (fun hb4 => ?_)
        · have hp4 := hb4
          (try simp only [decide_eq_true_eq, decide_eq_false_iff_not, Bool.not_eq_true', Bool.not_eq_false', ne_eq, Decidable.not_not] at hp4)
          refine cd_sr ?_   -- 17
          refine ol_q (wn_none rfl) (op_move (v := .pointer _) rfl) rfl ?_
          refine ol_pull1 ?_
          refine ol_i (wn_none rfl) (os_call cb_51 rfl (fun w s => RUint_calls (n := 8) _ _ _  s (stR_suf _ _) (by omega))) rfl ?_; rintro _ _ ⟨rfl, rfl⟩; rw [show rdUint (stR src 39) 8 = _ from stU src 39 8 (by decide) (by omega)]
          refine ol_q (wn_none rfl) (op_field fld_45_4 rfl) rfl ?_
          refine ol_pull1 ?_
          refine ol_iN (wn_none rfl) (os_store (v := .int _ _) sc_32 rfl rfl rfl (by simp [msgC_len]) (Free.zero _) (msgC_s35 _ _)) ?_; rintro _ _ ⟨rfl, rfl⟩
          refine ol_nil_then ?_
          refine cd_region ?_   -- 18
          refine ol_q (wn_none rfl) (op_move (v := .int _ _) rfl) rfl ?_
          refine ol_q (wn_none rfl) (op_sub rfl rfl (by omega) (by omega)) rfl ?_
          refine ol_q (wn_none rfl) (op_assign (v := .int _ _) rfl) rfl ?_
          refine ol_nil ?_
          refine px_then ?_
          refine cd_seq ?_
          refine cd_sr ?_   -- 19
          refine ol_q (wn_none rfl) (op_field fld_45_0 rfl) rfl ?_
          refine ol_q (wn_none rfl) (op_ld 0 sc_3 rfl rfl (show (msgC _).toArray[0]? = some (.int .i64 (kindW src)) from msgC_a0 _)) rfl ?_
          refine ol_q (wn_none rfl) (op_eq rfl rfl) rfl ?_
          refine ol_nil_then ?_
          refine cd_cond rfl (fun hb5 => ?_) (fun hb5 => ?_)
          · have hp5 := hb5
            (try simp only [decide_eq_true_eq, decide_eq_false_iff_not, Bool.not_eq_true', Bool.not_eq_false', ne_eq, Decidable.not_not] at hp5)
            omega
          · have hp5 := hb5
            (try simp only [decide_eq_true_eq, decide_eq_false_iff_not, Bool.not_eq_true', Bool.not_eq_false', ne_eq, Decidable.not_not] at hp5)
            refine cd_skip ?_
            refine px_then ?_
            refine cd_seq ?_
            refine cd_sr ?_   -- 25
            refine ol_q (wn_none rfl) (op_move (v := .int _ _) rfl) rfl ?_
            refine ol_nil_then ?_
            refine cd_block ?_
            refine cd_pull1 ?_
            refine cd_loop2 (α := Nat) [(10, 10), (77, 86)] (fun x => [(77, .int .i64 (x : Int))]) (fun x => RfObj bx2 src (stR src (47 + x)) :: Blk bx3 (.cells (msgC ⟨kindW src, slotW src, tgtW src, memW src, bdW src, ⟨none, 0, 0⟩, taS src 47 x⟩).toArray 45 (0, 0)) :: _) (fun x => x ≤ 16) (fun x => 16 - x) 0 (Nat.zero_le _) ⟨rfl, trivial⟩ (fun _ s => by (try dsimp only); rw [taS_zero]; exact s) ?_
            rintro i hi f; (try dsimp only at hi ⊢)
            refine cd_sr ?_   -- 26
            refine ol_q (wn_none rfl) (op_lt rfl rfl) rfl ?_
            refine ol_nil_then ?_
            refine cd_seq ?_
            refine cd_cond rfl (fun hb6 => ?_) (fun hb6 => ?_)
            · have hp6 := hb6
              (try simp only [decide_eq_true_eq, decide_eq_false_iff_not, Bool.not_eq_true', Bool.not_eq_false', ne_eq, Decidable.not_not] at hp6)
              have hi1 : i < 16 := by omega
              refine cd_skip ?_
              refine px_then ?_
              refine cd_seq ?_
              refine cd_block ?_
              refine cd_sr ?_   -- 27
              refine ol_q (wn_none rfl) (op_move (v := .int _ _) rfl) rfl ?_
              refine ol_q (wn_none rfl) (op_assign (v := .int _ _) rfl) rfl ?_
              refine ol_nil_then ?_
              refine cd_region ?_   -- 28
              refine ol_q (wn_none rfl) (op_move (v := .int _ _) rfl) rfl ?_
              refine ol_q (wn_none rfl) (op_move (v := .pointer _) rfl) rfl ?_
              refine ol_i (wn_none rfl) (os_call cb_51 rfl (fun w s => RUint_calls (n := 1) _ _ _  s (stR_suf _ _) (by omega))) rfl ?_; rintro _ _ ⟨rfl, rfl⟩; rw [stU1]
              refine ol_q (wn_none rfl) (op_conv8 Try.underlying5 (by rw [Try.underlying32]; rfl) rfl) rfl ?_
              refine ol_q (wn_none rfl) (op_field fld_45_6 rfl) rfl ?_
              refine ol_q (wn_none rfl) (op_aidx _ a1_43 rfl rfl rfl (by omega)) rfl ?_
              refine ol_pull1 ?_
              refine ol_iN (wn_none rfl) (os_store (v := .int _ _) sc_5 rfl rfl rfl (Nat.ble_eq_true_of_le (by simp [msgC_len]; omega)) (Free.zero _) (msg_gset src _ _ _ _ _ _ _ hi1)) ?_; rintro _ _ ⟨rfl, rfl⟩
              refine ol_nil ?_
              refine px_blockN ?_
              refine px_then ?_
              refine cd_region ?_   -- 29
              refine ol_q (wn_none rfl) (op_add rfl rfl (by omega) (by omega)) rfl ?_
              refine ol_q (wn_none rfl) (op_move (v := .int _ _) rfl) rfl ?_
              refine ol_nil ?_
              refine px_loop2 (i + 1) (by omega) (by (try dsimp only); omega) ⟨congrArg (Value.int .i64) (by simp), trivial⟩ ?_ (fun _ s => (((s.pull 2).pull 1).pull 2))
              repeat (first | exact kept_over | refine kept_upd rfl ?_ | refine kept_overS (by decide) ?_)
            · have hp6 := hb6
              (try simp only [decide_eq_true_eq, decide_eq_false_iff_not, Bool.not_eq_true', Bool.not_eq_false', ne_eq, Decidable.not_not] at hp6)
              have hi : i = 16 := by omega
              rw [hi]
              refine cd_exit ?_
              refine px_thenE ?_
              refine px_thenE ?_
              refine px_blockE ?_
              refine px_then ?_
              refine cd_seq ?_
              refine cd_sr ?_   -- 30
              refine ol_q (wn_none rfl) (op_move (v := .int _ _) rfl) rfl ?_
              refine ol_q (wn_none rfl) (op_ne rfl rfl) rfl ?_
              refine ol_q (wn_none rfl) (op_move (v := .bool _) rfl) rfl ?_
              refine ol_split 89 rfl (fun hb7 => ?_) (fun hb7 => ?_)
              · have hp7 := hb7
                (try simp only [decide_eq_true_eq, decide_eq_false_iff_not, Bool.not_eq_true', Bool.not_eq_false', ne_eq, Decidable.not_not] at hp7)
                refine ol_skip (wn_some rfl rfl rfl hb7 rfl) rfl ?_
                refine ol_skip (wn_some rfl rfl rfl hb7 rfl) rfl ?_
                refine ol_skip (wn_some rfl rfl rfl hb7 rfl) rfl ?_
                refine ol_q (wn_none rfl) (op_pick_t (v := .bool _) rfl hb7 rfl) rfl ?_
                refine ol_q (wn_none rfl) (op_move (v := .bool _) rfl) rfl ?_
                refine ol_skip (wn_some rfl rfl rfl rfl rfl) rfl ?_
                refine ol_skip (wn_some rfl rfl rfl rfl rfl) rfl ?_
                refine ol_skip (wn_some rfl rfl rfl rfl rfl) rfl ?_
                refine ol_q (wn_none rfl) (op_pick_t (v := .bool _) rfl rfl rfl) rfl ?_
                refine ol_nil_then ?_
                refine cd_cond_t rfl rfl ?_
                refine cd_sr ?_   -- 31
                refine ol_q (wn_none rfl) (op_build (L := msgC _) (vs := []) bB_45 rfl trivial rfl) rfl ?_
                refine ol_pull2 ?_
                refine ol_iN (wn_none rfl) (os_storew (msgC _) ag_45 rfl rfl (msgC_len _) (msgC_one _) (by simp [msgC_len]) (Free.zero _)) ?_; rintro _ _ ⟨rfl, rfl⟩
                refine ol_q (wn_none rfl) (op_assign (v := .bool _) rfl) rfl ?_
                refine ol_nil_then ?_
                refine cd_ret ?_
                refine px_thenR ?_
                have hd : decW src = (MsgP.zero, false) := by rw [decW_1 hk1, if_neg (by omega)]
                exact px_rv2 rfl (rv_cella 0 ag_45 rfl rfl (msgC_ta _) (by simp [msgC_len])) (rv_tmp rfl) (fun _ s => Sat.rowNil (((s.del 2).del 1).del 0)) ⟨none, 0, by rw [hd]; rfl, by rw [hd]; rfl⟩
              · have hp7 := hb7
                (try simp only [decide_eq_true_eq, decide_eq_false_iff_not, Bool.not_eq_true', Bool.not_eq_false', ne_eq, Decidable.not_not] at hp7)
                refine ol_q (wn_some rfl rfl rfl hb7 rfl) (op_move (v := .pointer _) rfl) rfl ?_
                refine ol_i (wn_some rfl rfl rfl hb7 rfl) (os_call cb_54 rfl (fun w s => REnd_calls _ _ _  s (stR_suf _ _) (by omega))) rfl ?_; rintro _ _ ⟨rfl, rfl⟩
                refine ol_q (wn_some rfl rfl rfl hb7 rfl) (op_not rfl) rfl ?_
                refine ol_q (wn_none rfl) (op_pick_f (v := .bool _) rfl hb7 rfl) rfl ?_
                refine ol_q (wn_none rfl) (op_move (v := .bool _) rfl) rfl ?_
                refine ol_split 94 rfl (fun hb8 => ?_) (fun hb8 => ?_)
                · have hp8 := hb8
                  (try simp only [decide_eq_true_eq, decide_eq_false_iff_not, Bool.not_eq_true', Bool.not_eq_false', ne_eq, Decidable.not_not] at hp8)
                  exact absurd hb8 (by rw [endR_stE]; simp; omega)
                · have hp8 := hb8
                  (try simp only [decide_eq_true_eq, decide_eq_false_iff_not, Bool.not_eq_true', Bool.not_eq_false', ne_eq, Decidable.not_not] at hp8)
                  refine ol_q (wn_some rfl rfl rfl hb8 rfl) (op_lda (L := msgC _) 1 ag_45 rfl rfl (msgC_ta _) (by simp [msgC_len])) rfl ?_
                  refine ol_i (wn_some rfl rfl rfl hb8 rfl) (os_call cb_30 rfl (fun w s => WRGood_calls (bits := ([] : List Bool)) _ _ _ _ _ _ _ _  s (rds_nil _) (by show 0 ≤ 1000; omega) (by unfold bdW; omega))) rfl ?_; rintro _ l ⟨rfl, rfl⟩
                  refine ol_q (wn_some rfl rfl rfl hb8 rfl) (op_not rfl) rfl ?_
                  refine ol_q (wn_none rfl) (op_pick_f (v := .bool _) rfl hb8 rfl) rfl ?_
                  refine ol_nil_then ?_
                  refine cd_cond rfl (fun hb9 => ?_) (fun hb9 => ?_)
                  · have hp9 := hb9
                    (try simp only [decide_eq_true_eq, decide_eq_false_iff_not, Bool.not_eq_true', Bool.not_eq_false', ne_eq, Decidable.not_not] at hp9)
                    have hgd : goodW (kindW src) (slotW src) (memW src) (bdW src) [] = false := by have h9 : (!goodW (kindW src) (slotW src) (memW src) (bdW src) []) = true := hb9; simpa using h9
                    refine cd_sr ?_   -- 31
                    refine ol_q (wn_none rfl) (op_build (L := msgC _) (vs := []) bB_45 rfl trivial rfl) rfl ?_
                    refine ol_pull2 ?_
                    refine ol_iN (wn_none rfl) (os_storew (msgC _) ag_45 rfl rfl (msgC_len _) (msgC_one _) (by simp [msgC_len]) (Free.zero _)) ?_; rintro _ _ ⟨rfl, rfl⟩
                    refine ol_q (wn_none rfl) (op_assign (v := .bool _) rfl) rfl ?_
                    refine ol_nil_then ?_
                    refine cd_ret ?_
                    refine px_thenR ?_
                    have hd : decW src = (MsgP.zero, false) := by rw [decW_1 hk1, if_pos (by omega), chk_no hgd]
                    exact px_rv2 rfl (rv_cella 0 ag_45 rfl rfl (msgC_ta _) (by simp [msgC_len])) (rv_tmp rfl) (fun _ s => Sat.rowNil (((s.del 2).del 1).del 0)) ⟨none, 0, by rw [hd]; rfl, by rw [hd]; rfl⟩
                  · have hp9 := hb9
                    (try simp only [decide_eq_true_eq, decide_eq_false_iff_not, Bool.not_eq_true', Bool.not_eq_false', ne_eq, Decidable.not_not] at hp9)
                    have hgd : goodW (kindW src) (slotW src) (memW src) (bdW src) [] = true := by have h9 : (!goodW (kindW src) (slotW src) (memW src) (bdW src) []) = false := hb9; simpa using h9
                    refine cd_skip ?_
                    refine px_then ?_
                    refine cd_sr ?_   -- 32
                    refine ol_q (wn_none rfl) (op_lda (L := msgC _) 1 ag_45 rfl rfl (msgC_ta _) (by simp [msgC_len])) rfl ?_
                    refine ol_pull2 ?_
                    refine ol_iN (wn_none rfl) (os_storew (msgC _) ag_45 rfl rfl (msgC_len _) (msgC_one _) (by simp [msgC_len]) (Free.zero _)) ?_; rintro _ _ ⟨rfl, rfl⟩
                    refine ol_q (wn_none rfl) (op_assign (v := .bool _) rfl) rfl ?_
                    refine ol_nil_then ?_
                    refine cd_ret ?_
                    have hd : decW src = (m1W src, true) := by rw [decW_1 hk1, if_pos (by omega), chk_yes hgd]
                    exact px_rv2 rfl (rv_cella 0 ag_45 rfl rfl (msgC_ta _) (by simp [msgC_len])) (rv_tmp rfl) (fun _ s => Sat.rowNil (((s.del 2).del 1).del 0)) ⟨none, 0, by rw [hd, taS_all (by omega)]; rfl, by rw [hd]; rfl⟩
        · have hp4 := hb4
          (try simp only [decide_eq_true_eq, decide_eq_false_iff_not, Bool.not_eq_true', Bool.not_eq_false', ne_eq, Decidable.not_not] at hp4)
          omega
      · have hp3 := hb3
        (try simp only [decide_eq_true_eq, decide_eq_false_iff_not, Bool.not_eq_true', Bool.not_eq_false', ne_eq, Decidable.not_not] at hp3)
        have hk1 : ¬ kindW src = 1 := by omega
        refine ol_q (wn_some rfl rfl rfl hb3 rfl) (op_field fld_45_0 rfl) rfl ?_
        refine ol_q (wn_some rfl rfl rfl hb3 rfl) (op_ld 1 sc_3 rfl rfl (show (msgC _).toArray[0]? = some (.int .i64 (kindW src)) from msgC_a0 _)) rfl ?_
        refine ol_q (wn_some rfl rfl rfl hb3 rfl) (op_eq rfl rfl) rfl ?_
        refine ol_q (wn_none rfl) (op_pick_f (v := .bool _) rfl hb3 rfl) rfl ?_
        refine ol_nil_then ?_
        refine cd_cond rfl (fun hb10 => ?_) (fun hb10 => ?_)
        · have hp10 := hb10
          (try simp only [decide_eq_true_eq, decide_eq_false_iff_not, Bool.not_eq_true', Bool.not_eq_false', ne_eq, Decidable.not_not] at hp10)
          have hk2 : kindW src = 2 := by omega
          refine cd_sr ?_   -- 14
          refine ol_q (wn_none rfl) (op_move (v := .pointer _) rfl) rfl ?_
          refine ol_i (wn_none rfl) (os_call cb_51 rfl (fun w s => RUint_calls (n := 2) _ _ _  s (stR_suf _ _) (by omega))) rfl ?_; rintro _ _ ⟨rfl, rfl⟩; rw [show rdUint (stR src 37) 2 = _ from stU src 37 2 (by decide) (by omega)]
          refine ol_q (wn_none rfl) (op_convint Try.underlying3 (by rw [Try.underlying32]; rfl) rfl (by omega)) rfl ?_
          refine ol_q (wn_none rfl) (op_field fld_45_3 rfl) rfl ?_
          refine ol_pull1 ?_
          refine ol_iN (wn_none rfl) (os_store (v := .int _ _) sc_3 rfl rfl rfl (by simp [msgC_len]) (Free.zero _) (msgC_s34 _ _)) ?_; rintro _ _ ⟨rfl, rfl⟩
          refine ol_nil_then ?_
          refine cd_region ?_   -- 15
          refine ol_q (wn_none rfl) (op_move (v := .int _ _) rfl) rfl ?_
          refine ol_q (wn_none rfl) (op_sub rfl rfl (by omega) (by omega)) rfl ?_
          refine ol_q (wn_none rfl) (op_assign (v := .int _ _) rfl) rfl ?_
          refine ol_nil ?_
          refine px_then ?_
          refine cd_seq ?_
          refine cd_sr ?_   -- 16
          refine ol_q (wn_none rfl) (op_field fld_45_0 rfl) rfl ?_
          refine ol_q (wn_none rfl) (op_ld 0 sc_3 rfl rfl (show (msgC _).toArray[0]? = some (.int .i64 (kindW src)) from msgC_a0 _)) rfl ?_
          refine ol_q (wn_none rfl) (op_eq rfl rfl) rfl ?_
          refine ol_nil_then ?_
          refine cd_cond rfl (fun hb11 => ?_) (fun hb11 => ?_)
          · have hp11 := hb11
            (try simp only [decide_eq_true_eq, decide_eq_false_iff_not, Bool.not_eq_true', Bool.not_eq_false', ne_eq, Decidable.not_not] at hp11)
            omega
          · have hp11 := hb11
            (try simp only [decide_eq_true_eq, decide_eq_false_iff_not, Bool.not_eq_true', Bool.not_eq_false', ne_eq, Decidable.not_not] at hp11)
            refine cd_skip ?_
            refine px_then ?_
            refine cd_seq ?_
            refine cd_sr ?_   -- 19
            refine ol_q (wn_none rfl) (op_field fld_45_0 rfl) rfl ?_
            refine ol_q (wn_none rfl) (op_ld 0 sc_3 rfl rfl (show (msgC _).toArray[0]? = some (.int .i64 (kindW src)) from msgC_a0 _)) rfl ?_
            refine ol_q (wn_none rfl) (op_eq rfl rfl) rfl ?_
            refine ol_nil_then ?_
            refine cd_cond rfl (fun hb12 => ?_) (fun hb12 => ?_)
            · have hp12 := hb12
              (try simp only [decide_eq_true_eq, decide_eq_false_iff_not, Bool.not_eq_true', Bool.not_eq_false', ne_eq, Decidable.not_not] at hp12)
              omega
            · have hp12 := hb12
              (try simp only [decide_eq_true_eq, decide_eq_false_iff_not, Bool.not_eq_true', Bool.not_eq_false', ne_eq, Decidable.not_not] at hp12)
              refine cd_skip ?_
              refine px_then ?_
              refine cd_seq ?_
              refine cd_sr ?_   -- 25
              refine ol_q (wn_none rfl) (op_move (v := .int _ _) rfl) rfl ?_
              refine ol_nil_then ?_
              refine cd_block ?_
              refine cd_pull1 ?_
              refine cd_loop2 (α := Nat) [(10, 10), (77, 86)] (fun x => [(77, .int .i64 (x : Int))]) (fun x => RfObj bx2 src (stR src (39 + x)) :: Blk bx3 (.cells (msgC ⟨kindW src, slotW src, tgtW src, memW src, 0, ⟨none, 0, 0⟩, taS src 39 x⟩).toArray 45 (0, 0)) :: _) (fun x => x ≤ 16) (fun x => 16 - x) 0 (Nat.zero_le _) ⟨rfl, trivial⟩ (fun _ s => by (try dsimp only); rw [taS_zero]; exact s) ?_
              rintro i hi f; (try dsimp only at hi ⊢)
              refine cd_sr ?_   -- 26
              refine ol_q (wn_none rfl) (op_lt rfl rfl) rfl ?_
              refine ol_nil_then ?_
              refine cd_seq ?_
              refine cd_cond rfl (fun hb13 => ?_) (fun hb13 => ?_)
              · have hp13 := hb13
                (try simp only [decide_eq_true_eq, decide_eq_false_iff_not, Bool.not_eq_true', Bool.not_eq_false', ne_eq, Decidable.not_not] at hp13)
                have hi1 : i < 16 := by omega
                refine cd_skip ?_
                refine px_then ?_
                refine cd_seq ?_
                refine cd_block ?_
                refine cd_sr ?_   -- 27
                refine ol_q (wn_none rfl) (op_move (v := .int _ _) rfl) rfl ?_
                refine ol_q (wn_none rfl) (op_assign (v := .int _ _) rfl) rfl ?_
                refine ol_nil_then ?_
                refine cd_region ?_   -- 28
                refine ol_q (wn_none rfl) (op_move (v := .int _ _) rfl) rfl ?_
                refine ol_q (wn_none rfl) (op_move (v := .pointer _) rfl) rfl ?_
                refine ol_i (wn_none rfl) (os_call cb_51 rfl (fun w s => RUint_calls (n := 1) _ _ _  s (stR_suf _ _) (by omega))) rfl ?_; rintro _ _ ⟨rfl, rfl⟩; rw [stU1]
                refine ol_q (wn_none rfl) (op_conv8 Try.underlying5 (by rw [Try.underlying32]; rfl) rfl) rfl ?_
                refine ol_q (wn_none rfl) (op_field fld_45_6 rfl) rfl ?_
                refine ol_q (wn_none rfl) (op_aidx _ a1_43 rfl rfl rfl (by omega)) rfl ?_
                refine ol_pull1 ?_
                refine ol_iN (wn_none rfl) (os_store (v := .int _ _) sc_5 rfl rfl rfl (Nat.ble_eq_true_of_le (by simp [msgC_len]; omega)) (Free.zero _) (msg_gset src _ _ _ _ _ _ _ hi1)) ?_; rintro _ _ ⟨rfl, rfl⟩
                refine ol_nil ?_
                refine px_blockN ?_
                refine px_then ?_
                refine cd_region ?_   -- 29
                refine ol_q (wn_none rfl) (op_add rfl rfl (by omega) (by omega)) rfl ?_
                refine ol_q (wn_none rfl) (op_move (v := .int _ _) rfl) rfl ?_
                refine ol_nil ?_
                refine px_loop2 (i + 1) (by omega) (by (try dsimp only); omega) ⟨congrArg (Value.int .i64) (by simp), trivial⟩ ?_ (fun _ s => (((s.pull 2).pull 1).pull 2))
                repeat (first | exact kept_over | refine kept_upd rfl ?_ | refine kept_overS (by decide) ?_)
              · have hp13 := hb13
                (try simp only [decide_eq_true_eq, decide_eq_false_iff_not, Bool.not_eq_true', Bool.not_eq_false', ne_eq, Decidable.not_not] at hp13)
                have hi : i = 16 := by omega
                rw [hi]
                refine cd_exit ?_
                refine px_thenE ?_
                refine px_thenE ?_
                refine px_blockE ?_
                refine px_then ?_
                refine cd_seq ?_
                refine cd_sr ?_   -- 30
                refine ol_q (wn_none rfl) (op_move (v := .int _ _) rfl) rfl ?_
                refine ol_q (wn_none rfl) (op_ne rfl rfl) rfl ?_
                refine ol_q (wn_none rfl) (op_move (v := .bool _) rfl) rfl ?_
                refine ol_split 89 rfl (fun hb14 => ?_) (fun hb14 => ?_)
                · have hp14 := hb14
                  (try simp only [decide_eq_true_eq, decide_eq_false_iff_not, Bool.not_eq_true', Bool.not_eq_false', ne_eq, Decidable.not_not] at hp14)
                  refine ol_skip (wn_some rfl rfl rfl hb14 rfl) rfl ?_
                  refine ol_skip (wn_some rfl rfl rfl hb14 rfl) rfl ?_
                  refine ol_skip (wn_some rfl rfl rfl hb14 rfl) rfl ?_
                  refine ol_q (wn_none rfl) (op_pick_t (v := .bool _) rfl hb14 rfl) rfl ?_
                  refine ol_q (wn_none rfl) (op_move (v := .bool _) rfl) rfl ?_
                  refine ol_skip (wn_some rfl rfl rfl rfl rfl) rfl ?_
                  refine ol_skip (wn_some rfl rfl rfl rfl rfl) rfl ?_
                  refine ol_skip (wn_some rfl rfl rfl rfl rfl) rfl ?_
                  refine ol_q (wn_none rfl) (op_pick_t (v := .bool _) rfl rfl rfl) rfl ?_
                  refine ol_nil_then ?_
                  refine cd_cond_t rfl rfl ?_
                  refine cd_sr ?_   -- 31
                  refine ol_q (wn_none rfl) (op_build (L := msgC _) (vs := []) bB_45 rfl trivial rfl) rfl ?_
                  refine ol_pull2 ?_
                  refine ol_iN (wn_none rfl) (os_storew (msgC _) ag_45 rfl rfl (msgC_len _) (msgC_one _) (by simp [msgC_len]) (Free.zero _)) ?_; rintro _ _ ⟨rfl, rfl⟩
                  refine ol_q (wn_none rfl) (op_assign (v := .bool _) rfl) rfl ?_
                  refine ol_nil_then ?_
                  refine cd_ret ?_
                  refine px_thenR ?_
                  have hd : decW src = (MsgP.zero, false) := by rw [decW_2 hk1 hk2, if_neg (by omega)]
                  exact px_rv2 rfl (rv_cella 0 ag_45 rfl rfl (msgC_ta _) (by simp [msgC_len])) (rv_tmp rfl) (fun _ s => Sat.rowNil (((s.del 2).del 1).del 0)) ⟨none, 0, by rw [hd]; rfl, by rw [hd]; rfl⟩
                · have hp14 := hb14
                  (try simp only [decide_eq_true_eq, decide_eq_false_iff_not, Bool.not_eq_true', Bool.not_eq_false', ne_eq, Decidable.not_not] at hp14)
                  refine ol_q (wn_some rfl rfl rfl hb14 rfl) (op_move (v := .pointer _) rfl) rfl ?_
                  refine ol_i (wn_some rfl rfl rfl hb14 rfl) (os_call cb_54 rfl (fun w s => REnd_calls _ _ _  s (stR_suf _ _) (by omega))) rfl ?_; rintro _ _ ⟨rfl, rfl⟩
                  refine ol_q (wn_some rfl rfl rfl hb14 rfl) (op_not rfl) rfl ?_
                  refine ol_q (wn_none rfl) (op_pick_f (v := .bool _) rfl hb14 rfl) rfl ?_
                  refine ol_q (wn_none rfl) (op_move (v := .bool _) rfl) rfl ?_
                  refine ol_split 94 rfl (fun hb15 => ?_) (fun hb15 => ?_)
                  · have hp15 := hb15
                    (try simp only [decide_eq_true_eq, decide_eq_false_iff_not, Bool.not_eq_true', Bool.not_eq_false', ne_eq, Decidable.not_not] at hp15)
                    exact absurd hb15 (by rw [endR_stE]; simp; omega)
                  · have hp15 := hb15
                    (try simp only [decide_eq_true_eq, decide_eq_false_iff_not, Bool.not_eq_true', Bool.not_eq_false', ne_eq, Decidable.not_not] at hp15)
                    refine ol_q (wn_some rfl rfl rfl hb15 rfl) (op_lda (L := msgC _) 1 ag_45 rfl rfl (msgC_ta _) (by simp [msgC_len])) rfl ?_
                    refine ol_i (wn_some rfl rfl rfl hb15 rfl) (os_call cb_30 rfl (fun w s => WRGood_calls (bits := ([] : List Bool)) _ _ _ _ _ _ _ _  s (rds_nil _) (by show 0 ≤ 1000; omega) (by show 0 < 18446744073709551616; omega))) rfl ?_; rintro _ l ⟨rfl, rfl⟩
                    refine ol_q (wn_some rfl rfl rfl hb15 rfl) (op_not rfl) rfl ?_
                    refine ol_q (wn_none rfl) (op_pick_f (v := .bool _) rfl hb15 rfl) rfl ?_
                    refine ol_nil_then ?_
                    refine cd_cond rfl (fun hb16 => ?_) (fun hb16 => ?_)
                    · have hp16 := hb16
                      (try simp only [decide_eq_true_eq, decide_eq_false_iff_not, Bool.not_eq_true', Bool.not_eq_false', ne_eq, Decidable.not_not] at hp16)
                      have hgd : goodW (kindW src) (slotW src) (memW src) 0 [] = false := by have h9 : (!goodW (kindW src) (slotW src) (memW src) 0 []) = true := hb16; simpa using h9
                      refine cd_sr ?_   -- 31
                      refine ol_q (wn_none rfl) (op_build (L := msgC _) (vs := []) bB_45 rfl trivial rfl) rfl ?_
                      refine ol_pull2 ?_
                      refine ol_iN (wn_none rfl) (os_storew (msgC _) ag_45 rfl rfl (msgC_len _) (msgC_one _) (by simp [msgC_len]) (Free.zero _)) ?_; rintro _ _ ⟨rfl, rfl⟩
                      refine ol_q (wn_none rfl) (op_assign (v := .bool _) rfl) rfl ?_
                      refine ol_nil_then ?_
                      refine cd_ret ?_
                      refine px_thenR ?_
                      have hd : decW src = (MsgP.zero, false) := by rw [decW_2 hk1 hk2, if_pos (by omega), chk_no hgd]
                      exact px_rv2 rfl (rv_cella 0 ag_45 rfl rfl (msgC_ta _) (by simp [msgC_len])) (rv_tmp rfl) (fun _ s => Sat.rowNil (((s.del 2).del 1).del 0)) ⟨none, 0, by rw [hd]; rfl, by rw [hd]; rfl⟩
                    · have hp16 := hb16
                      (try simp only [decide_eq_true_eq, decide_eq_false_iff_not, Bool.not_eq_true', Bool.not_eq_false', ne_eq, Decidable.not_not] at hp16)
                      have hgd : goodW (kindW src) (slotW src) (memW src) 0 [] = true := by have h9 : (!goodW (kindW src) (slotW src) (memW src) 0 []) = false := hb16; simpa using h9
                      refine cd_skip ?_
                      refine px_then ?_
                      refine cd_sr ?_   -- 32
                      refine ol_q (wn_none rfl) (op_lda (L := msgC _) 1 ag_45 rfl rfl (msgC_ta _) (by simp [msgC_len])) rfl ?_
                      refine ol_pull2 ?_
                      refine ol_iN (wn_none rfl) (os_storew (msgC _) ag_45 rfl rfl (msgC_len _) (msgC_one _) (by simp [msgC_len]) (Free.zero _)) ?_; rintro _ _ ⟨rfl, rfl⟩
                      refine ol_q (wn_none rfl) (op_assign (v := .bool _) rfl) rfl ?_
                      refine ol_nil_then ?_
                      refine cd_ret ?_
                      have hd : decW src = (m2W src, true) := by rw [decW_2 hk1 hk2, if_pos (by omega), chk_yes hgd]
                      exact px_rv2 rfl (rv_cella 0 ag_45 rfl rfl (msgC_ta _) (by simp [msgC_len])) (rv_tmp rfl) (fun _ s => Sat.rowNil (((s.del 2).del 1).del 0)) ⟨none, 0, by rw [hd, taS_all (by omega)]; rfl, by rw [hd]; rfl⟩
        · have hp10 := hb10
          (try simp only [decide_eq_true_eq, decide_eq_false_iff_not, Bool.not_eq_true', Bool.not_eq_false', ne_eq, Decidable.not_not] at hp10)
          have hk2 : ¬ kindW src = 2 := by omega
          refine cd_skip ?_
          refine px_then ?_
          refine cd_seq ?_
          refine cd_sr ?_   -- 16
          refine ol_q (wn_none rfl) (op_field fld_45_0 rfl) rfl ?_
          refine ol_q (wn_none rfl) (op_ld 1 sc_3 rfl rfl (show (msgC _).toArray[0]? = some (.int .i64 (kindW src)) from msgC_a0 _)) rfl ?_
          refine ol_q (wn_none rfl) (op_eq rfl rfl) rfl ?_
          refine ol_nil_then ?_
          refine cd_cond rfl (fun hb17 => ?_) (fun hb17 => ?_)
          · have hp17 := hb17
            (try simp only [decide_eq_true_eq, decide_eq_false_iff_not, Bool.not_eq_true', Bool.not_eq_false', ne_eq, Decidable.not_not] at hp17)
            omega
          · have hp17 := hb17
            (try simp only [decide_eq_true_eq, decide_eq_false_iff_not, Bool.not_eq_true', Bool.not_eq_false', ne_eq, Decidable.not_not] at hp17)
            refine cd_skip ?_
            refine px_then ?_
            refine cd_seq ?_
            refine cd_sr ?_   -- 19
            refine ol_q (wn_none rfl) (op_field fld_45_0 rfl) rfl ?_
            refine ol_q (wn_none rfl) (op_ld 1 sc_3 rfl rfl (show (msgC _).toArray[0]? = some (.int .i64 (kindW src)) from msgC_a0 _)) rfl ?_
            refine ol_q (wn_none rfl) (op_eq rfl rfl) rfl ?_
            refine ol_nil_then ?_
            refine cd_cond rfl (fun hb18 => ?_) (fun hb18 => ?_)
            · have hp18 := hb18
              (try simp only [decide_eq_true_eq, decide_eq_false_iff_not, Bool.not_eq_true', Bool.not_eq_false', ne_eq, Decidable.not_not] at hp18)
              have hk3 : kindW src = 3 := by omega
              refine cd_sr ?_   -- 20
              refine ol_q (wn_none rfl) (op_move (v := .pointer _) rfl) rfl ?_
              refine ol_q (wn_none rfl) (op_move (v := .int _ _) rfl) rfl ?_
              refine ol_i (wn_none rfl) (os_call cb_53 rfl (fun w s => RBytes_calls _ _ _ _  s (stR_suf _ _) (by omega))) rfl ?_; rintro _ _ ⟨rfl, rfl⟩; rw [mid_rd (by omega)]
              refine ol_i (wn_none rfl) (os_call cb_52 rfl (fun w s => RefGet_calls (most := 16) _  s (by unfold midW; simp; omega))) rfl ?_; rintro _ _ ⟨wr14, wa14, wc14, rfl, rfl, hw14⟩
              refine ol_q (wn_none rfl) (op_move (v := .tuple _) rfl) rfl ?_
              refine ol_q (wn_none rfl) (op_extract (v := .slice _ _ _) rfl rfl) rfl ?_
              refine ol_q (wn_none rfl) (op_extract (v := .bool _) rfl rfl) rfl ?_
              refine ol_q (wn_none rfl) (op_assign (v := .slice _ _ _) rfl) rfl ?_
              refine ol_q (wn_none rfl) (op_assign (v := .bool _) rfl) rfl ?_
              refine ol_nil_then ?_
              refine cd_seq ?_
              refine cd_sr ?_   -- 21
              refine ol_q (wn_none rfl) (op_move (v := .bool _) rfl) rfl ?_
              refine ol_q (wn_none rfl) (op_not rfl) rfl ?_
              refine ol_nil_then ?_
              refine cd_cond rfl (fun hb19 => ?_) (fun hb19 => ?_)
              · have hp19 := hb19
                (try simp only [decide_eq_true_eq, decide_eq_false_iff_not, Bool.not_eq_true', Bool.not_eq_false', ne_eq, Decidable.not_not] at hp19)
                have hgo : ¬ (getB (midW src) 16).isSome = true := by simpa using hb19
                refine cd_sr ?_   -- 22
                refine ol_q (wn_none rfl) (op_build (L := msgC _) (vs := []) bB_45 rfl trivial rfl) rfl ?_
                refine ol_pull3 ?_
                refine ol_iN (wn_none rfl) (os_storew (msgC _) ag_45 rfl rfl (msgC_len _) (msgC_one _) (by simp [msgC_len]) (Free.zero _)) ?_; rintro _ _ ⟨rfl, rfl⟩
                refine ol_q (wn_none rfl) (op_assign (v := .bool _) rfl) rfl ?_
                refine ol_nil_then ?_
                refine cd_ret ?_
                refine px_thenR ?_
                refine px_thenR ?_
                have hd : decW src = (MsgP.zero, false) := by rw [decW_3 hk1 hk2 hk3, if_neg (fun h => hgo h.2)]
                exact px_rv2 rfl (rv_cella 0 ag_45 rfl rfl (msgC_ta _) (by simp [msgC_len])) (rv_tmp rfl) (fun _ s => Sat.rowNil ((((s.del 3).del 2).del 1).del 0)) ⟨none, 0, by rw [hd]; rfl, by rw [hd]; rfl⟩
              · have hp19 := hb19
                (try simp only [decide_eq_true_eq, decide_eq_false_iff_not, Bool.not_eq_true', Bool.not_eq_false', ne_eq, Decidable.not_not] at hp19)
                have hgo : (getB (midW src) 16).isSome = true := by simpa using hb19
                obtain rfl := hw14 hgo
                refine cd_skip ?_
                refine px_then ?_
                refine cd_sr ?_   -- 23
                refine ol_q (wn_none rfl) (op_move (v := .slice _ _ _) rfl) rfl ?_
                refine ol_q (wn_none rfl) (op_field fld_45_5 rfl) rfl ?_
                refine ol_pull2 ?_
                refine ol_iN (wn_none rfl) (os_store (v := .slice _ _ _) sc_41 rfl rfl rfl (by simp [msgC_len]) (Free.zero _) (msgC_s36 _ ⟨_, _, _⟩)) ?_; rintro _ _ ⟨rfl, rfl⟩
                refine ol_nil_then ?_
                refine cd_region ?_   -- 24
                refine ol_q (wn_none rfl) (op_assign (v := .int _ _) rfl) rfl ?_
                refine ol_nil ?_
                refine px_then ?_
                refine cd_seq ?_
                refine cd_sr ?_   -- 25
                refine ol_q (wn_none rfl) (op_move (v := .int _ _) rfl) rfl ?_
                refine ol_nil_then ?_
                refine cd_block ?_
                refine cd_pull2 ?_
                refine cd_loop2 (α := Nat) [(10, 10), (77, 86)] (fun x => [(77, .int .i64 (x : Int))]) (fun x => RfObj bx2 src (stR src ((src.length - 16) + x)) :: Blk bx3 (.cells (msgC ⟨kindW src, slotW src, tgtW src, 0, 0, ⟨wa14, (getD' (midW src) 16).length, wc14⟩, taS src (src.length - 16) x⟩).toArray 45 (0, 0)) :: _) (fun x => x ≤ 16) (fun x => 16 - x) 0 (Nat.zero_le _) ⟨rfl, trivial⟩ (fun _ s => by (try dsimp only); rw [taS_zero]; exact s) ?_
                rintro i hi f; (try dsimp only at hi ⊢)
                refine cd_sr ?_   -- 26
                refine ol_q (wn_none rfl) (op_lt rfl rfl) rfl ?_
                refine ol_nil_then ?_
                refine cd_seq ?_
                refine cd_cond rfl (fun hb20 => ?_) (fun hb20 => ?_)
                · have hp20 := hb20
                  (try simp only [decide_eq_true_eq, decide_eq_false_iff_not, Bool.not_eq_true', Bool.not_eq_false', ne_eq, Decidable.not_not] at hp20)
                  have hi1 : i < 16 := by omega
                  refine cd_skip ?_
                  refine px_then ?_
                  refine cd_seq ?_
                  refine cd_block ?_
                  refine cd_sr ?_   -- 27
                  refine ol_q (wn_none rfl) (op_move (v := .int _ _) rfl) rfl ?_
                  refine ol_q (wn_none rfl) (op_assign (v := .int _ _) rfl) rfl ?_
                  refine ol_nil_then ?_
                  refine cd_region ?_   -- 28
                  refine ol_q (wn_none rfl) (op_move (v := .int _ _) rfl) rfl ?_
                  refine ol_q (wn_none rfl) (op_move (v := .pointer _) rfl) rfl ?_
                  refine ol_i (wn_none rfl) (os_call cb_51 rfl (fun w s => RUint_calls (n := 1) _ _ _  s (stR_suf _ _) (by omega))) rfl ?_; rintro _ _ ⟨rfl, rfl⟩; rw [stU1]
                  refine ol_q (wn_none rfl) (op_conv8 Try.underlying5 (by rw [Try.underlying32]; rfl) rfl) rfl ?_
                  refine ol_q (wn_none rfl) (op_field fld_45_6 rfl) rfl ?_
                  refine ol_q (wn_none rfl) (op_aidx _ a1_43 rfl rfl rfl (by omega)) rfl ?_
                  refine ol_pull1 ?_
                  refine ol_iN (wn_none rfl) (os_store (v := .int _ _) sc_5 rfl rfl rfl (Nat.ble_eq_true_of_le (by simp [msgC_len]; omega)) (Free.zero _) (msg_gset src _ _ _ _ _ _ _ hi1)) ?_; rintro _ _ ⟨rfl, rfl⟩
                  refine ol_nil ?_
                  refine px_blockN ?_
                  refine px_then ?_
                  refine cd_region ?_   -- 29
                  refine ol_q (wn_none rfl) (op_add rfl rfl (by omega) (by omega)) rfl ?_
                  refine ol_q (wn_none rfl) (op_move (v := .int _ _) rfl) rfl ?_
                  refine ol_nil ?_
                  refine px_loop2 (i + 1) (by omega) (by (try dsimp only); omega) ⟨congrArg (Value.int .i64) (by simp), trivial⟩ ?_ (fun _ s => ((((s.pull 3).pull 3).pull 2).pull 3))
                  repeat (first | exact kept_over | refine kept_upd rfl ?_ | refine kept_overS (by decide) ?_)
                · have hp20 := hb20
                  (try simp only [decide_eq_true_eq, decide_eq_false_iff_not, Bool.not_eq_true', Bool.not_eq_false', ne_eq, Decidable.not_not] at hp20)
                  have hi : i = 16 := by omega
                  rw [hi]
                  refine cd_exit ?_
                  refine px_thenE ?_
                  refine px_thenE ?_
                  refine px_blockE ?_
                  refine px_then ?_
                  refine cd_seq ?_
                  refine cd_sr ?_   -- 30
                  refine ol_q (wn_none rfl) (op_move (v := .int _ _) rfl) rfl ?_
                  refine ol_q (wn_none rfl) (op_ne rfl rfl) rfl ?_
                  refine ol_q (wn_none rfl) (op_move (v := .bool _) rfl) rfl ?_
                  refine ol_split 89 rfl (fun hb21 => ?_) (fun hb21 => ?_)
                  · have hp21 := hb21
                    (try simp only [decide_eq_true_eq, decide_eq_false_iff_not, Bool.not_eq_true', Bool.not_eq_false', ne_eq, Decidable.not_not] at hp21)
                    exact absurd hb21 (by decide)
                  · have hp21 := hb21
                    (try simp only [decide_eq_true_eq, decide_eq_false_iff_not, Bool.not_eq_true', Bool.not_eq_false', ne_eq, Decidable.not_not] at hp21)
                    refine ol_q (wn_some rfl rfl rfl hb21 rfl) (op_move (v := .pointer _) rfl) rfl ?_
                    refine ol_i (wn_some rfl rfl rfl hb21 rfl) (os_call cb_54 rfl (fun w s => REnd_calls _ _ _  s (stR_suf _ _) (by omega))) rfl ?_; rintro _ _ ⟨rfl, rfl⟩
                    refine ol_q (wn_some rfl rfl rfl hb21 rfl) (op_not rfl) rfl ?_
                    refine ol_q (wn_none rfl) (op_pick_f (v := .bool _) rfl hb21 rfl) rfl ?_
                    refine ol_q (wn_none rfl) (op_move (v := .bool _) rfl) rfl ?_
                    refine ol_split 94 rfl (fun hb22 => ?_) (fun hb22 => ?_)
                    · have hp22 := hb22
                      (try simp only [decide_eq_true_eq, decide_eq_false_iff_not, Bool.not_eq_true', Bool.not_eq_false', ne_eq, Decidable.not_not] at hp22)
                      exact absurd hb22 (by rw [endR_stE]; simp; omega)
                    · have hp22 := hb22
                      (try simp only [decide_eq_true_eq, decide_eq_false_iff_not, Bool.not_eq_true', Bool.not_eq_false', ne_eq, Decidable.not_not] at hp22)
                      refine ol_q (wn_some rfl rfl rfl hb22 rfl) (op_lda (L := msgC _) 1 ag_45 rfl rfl (msgC_ta _) (by simp [msgC_len])) rfl ?_
                      refine ol_i (wn_some rfl rfl rfl hb22 rfl) (os_call cb_30 rfl (fun w s => WRGood_calls (bits := (getD' (midW src) 16)) _ _ _ _ _ _ _ _  s (rds_row 2 rfl rfl) (by have := (getB_back (most := 16) hgo).2; omega) (by show 0 < 18446744073709551616; omega))) rfl ?_; rintro _ l ⟨rfl, rfl⟩
                      refine ol_q (wn_some rfl rfl rfl hb22 rfl) (op_not rfl) rfl ?_
                      refine ol_q (wn_none rfl) (op_pick_f (v := .bool _) rfl hb22 rfl) rfl ?_
                      refine ol_nil_then ?_
                      refine cd_cond rfl (fun hb23 => ?_) (fun hb23 => ?_)
                      · have hp23 := hb23
                        (try simp only [decide_eq_true_eq, decide_eq_false_iff_not, Bool.not_eq_true', Bool.not_eq_false', ne_eq, Decidable.not_not] at hp23)
                        have hgd : goodW (kindW src) (slotW src) 0 0 (getD' (midW src) 16) = false := by have h9 : (!goodW (kindW src) (slotW src) 0 0 (getD' (midW src) 16)) = true := hb23; simpa using h9
                        refine cd_sr ?_   -- 31
                        refine ol_q (wn_none rfl) (op_build (L := msgC _) (vs := []) bB_45 rfl trivial rfl) rfl ?_
                        refine ol_pull3 ?_
                        refine ol_iN (wn_none rfl) (os_storew (msgC _) ag_45 rfl rfl (msgC_len _) (msgC_one _) (by simp [msgC_len]) (Free.zero _)) ?_; rintro _ _ ⟨rfl, rfl⟩
                        refine ol_q (wn_none rfl) (op_assign (v := .bool _) rfl) rfl ?_
                        refine ol_nil_then ?_
                        refine cd_ret ?_
                        refine px_thenR ?_
                        have hd : decW src = (MsgP.zero, false) := by rw [decW_3 hk1 hk2 hk3, if_pos ⟨by omega, hgo⟩, chk_no hgd]
                        exact px_rv2 rfl (rv_cella 0 ag_45 rfl rfl (msgC_ta _) (by simp [msgC_len])) (rv_tmp rfl) (fun _ s => Sat.rowNil ((((s.del 3).del 2).del 1).del 0)) ⟨none, 0, by rw [hd]; rfl, by rw [hd]; rfl⟩
                      · have hp23 := hb23
                        (try simp only [decide_eq_true_eq, decide_eq_false_iff_not, Bool.not_eq_true', Bool.not_eq_false', ne_eq, Decidable.not_not] at hp23)
                        have hgd : goodW (kindW src) (slotW src) 0 0 (getD' (midW src) 16) = true := by have h9 : (!goodW (kindW src) (slotW src) 0 0 (getD' (midW src) 16)) = false := hb23; simpa using h9
                        refine cd_skip ?_
                        refine px_then ?_
                        refine cd_sr ?_   -- 32
                        refine ol_q (wn_none rfl) (op_lda (L := msgC _) 1 ag_45 rfl rfl (msgC_ta _) (by simp [msgC_len])) rfl ?_
                        refine ol_pull3 ?_
                        refine ol_iN (wn_none rfl) (os_storew (msgC _) ag_45 rfl rfl (msgC_len _) (msgC_one _) (by simp [msgC_len]) (Free.zero _)) ?_; rintro _ _ ⟨rfl, rfl⟩
                        refine ol_q (wn_none rfl) (op_assign (v := .bool _) rfl) rfl ?_
                        refine ol_nil_then ?_
                        refine cd_ret ?_
                        have hd : decW src = (m3W src, true) := by rw [decW_3 hk1 hk2 hk3, if_pos ⟨by omega, hgo⟩, chk_yes hgd]
                        exact px_rv2 rfl (rv_cella 0 ag_45 rfl rfl (msgC_ta _) (by simp [msgC_len])) (rv_tmp rfl) (fun _ s => (((s.del 2).del 1).del 0)) ⟨wa14, wc14, by rw [hd, taS_all (by omega)]; rfl, by rw [hd]; rfl⟩
            · have hp18 := hb18
              (try simp only [decide_eq_true_eq, decide_eq_false_iff_not, Bool.not_eq_true', Bool.not_eq_false', ne_eq, Decidable.not_not] at hp18)
              have hk3 : ¬ kindW src = 3 := by omega
              refine cd_skip ?_
              refine px_then ?_
              refine cd_seq ?_
              refine cd_sr ?_   -- 25
              refine ol_q (wn_none rfl) (op_move (v := .int _ _) rfl) rfl ?_
              refine ol_nil_then ?_
              refine cd_block ?_
              refine cd_pull1 ?_
              refine cd_pull1 ?_
              refine cd_loop2 (α := Nat) [(10, 10), (77, 86)] (fun x => [(77, .int .i64 (x : Int))]) (fun x => RfObj bx2 src (stR src (37 + x)) :: Blk bx3 (.cells (msgC ⟨kindW src, slotW src, tgtW src, 0, 0, ⟨none, 0, 0⟩, taS src 37 x⟩).toArray 45 (0, 0)) :: _) (fun x => x ≤ 16) (fun x => 16 - x) 0 (Nat.zero_le _) ⟨rfl, trivial⟩ (fun _ s => by (try dsimp only); rw [taS_zero]; exact s) ?_
              rintro i hi f; (try dsimp only at hi ⊢)
              refine cd_sr ?_   -- 26
              refine ol_q (wn_none rfl) (op_lt rfl rfl) rfl ?_
              refine ol_nil_then ?_
              refine cd_seq ?_
              refine cd_cond rfl (fun hb24 => ?_) (fun hb24 => ?_)
              · have hp24 := hb24
                (try simp only [decide_eq_true_eq, decide_eq_false_iff_not, Bool.not_eq_true', Bool.not_eq_false', ne_eq, Decidable.not_not] at hp24)
                have hi1 : i < 16 := by omega
                refine cd_skip ?_
                refine px_then ?_
                refine cd_seq ?_
                refine cd_block ?_
                refine cd_sr ?_   -- 27
                refine ol_q (wn_none rfl) (op_move (v := .int _ _) rfl) rfl ?_
                refine ol_q (wn_none rfl) (op_assign (v := .int _ _) rfl) rfl ?_
                refine ol_nil_then ?_
                refine cd_region ?_   -- 28
                refine ol_q (wn_none rfl) (op_move (v := .int _ _) rfl) rfl ?_
                refine ol_q (wn_none rfl) (op_move (v := .pointer _) rfl) rfl ?_
                refine ol_i (wn_none rfl) (os_call cb_51 rfl (fun w s => RUint_calls (n := 1) _ _ _  s (stR_suf _ _) (by omega))) rfl ?_; rintro _ _ ⟨rfl, rfl⟩; rw [stU1]
                refine ol_q (wn_none rfl) (op_conv8 Try.underlying5 (by rw [Try.underlying32]; rfl) rfl) rfl ?_
                refine ol_q (wn_none rfl) (op_field fld_45_6 rfl) rfl ?_
                refine ol_q (wn_none rfl) (op_aidx _ a1_43 rfl rfl rfl (by omega)) rfl ?_
                refine ol_pull1 ?_
                refine ol_iN (wn_none rfl) (os_store (v := .int _ _) sc_5 rfl rfl rfl (Nat.ble_eq_true_of_le (by simp [msgC_len]; omega)) (Free.zero _) (msg_gset src _ _ _ _ _ _ _ hi1)) ?_; rintro _ _ ⟨rfl, rfl⟩
                refine ol_nil ?_
                refine px_blockN ?_
                refine px_then ?_
                refine cd_region ?_   -- 29
                refine ol_q (wn_none rfl) (op_add rfl rfl (by omega) (by omega)) rfl ?_
                refine ol_q (wn_none rfl) (op_move (v := .int _ _) rfl) rfl ?_
                refine ol_nil ?_
                refine px_loop2 (i + 1) (by omega) (by (try dsimp only); omega) ⟨congrArg (Value.int .i64) (by simp), trivial⟩ ?_ (fun _ s => (((s.pull 2).pull 1).pull 2))
                repeat (first | exact kept_over | refine kept_upd rfl ?_ | refine kept_overS (by decide) ?_)
              · have hp24 := hb24
                (try simp only [decide_eq_true_eq, decide_eq_false_iff_not, Bool.not_eq_true', Bool.not_eq_false', ne_eq, Decidable.not_not] at hp24)
                have hi : i = 16 := by omega
                rw [hi]
                refine cd_exit ?_
                refine px_thenE ?_
                refine px_thenE ?_
                refine px_blockE ?_
                refine px_then ?_
                refine cd_seq ?_
                refine cd_sr ?_   -- 30
                refine ol_q (wn_none rfl) (op_move (v := .int _ _) rfl) rfl ?_
                refine ol_q (wn_none rfl) (op_ne rfl rfl) rfl ?_
                refine ol_q (wn_none rfl) (op_move (v := .bool _) rfl) rfl ?_
                refine ol_split 89 rfl (fun hb25 => ?_) (fun hb25 => ?_)
                · have hp25 := hb25
                  (try simp only [decide_eq_true_eq, decide_eq_false_iff_not, Bool.not_eq_true', Bool.not_eq_false', ne_eq, Decidable.not_not] at hp25)
                  refine ol_skip (wn_some rfl rfl rfl hb25 rfl) rfl ?_
                  refine ol_skip (wn_some rfl rfl rfl hb25 rfl) rfl ?_
                  refine ol_skip (wn_some rfl rfl rfl hb25 rfl) rfl ?_
                  refine ol_q (wn_none rfl) (op_pick_t (v := .bool _) rfl hb25 rfl) rfl ?_
                  refine ol_q (wn_none rfl) (op_move (v := .bool _) rfl) rfl ?_
                  refine ol_skip (wn_some rfl rfl rfl rfl rfl) rfl ?_
                  refine ol_skip (wn_some rfl rfl rfl rfl rfl) rfl ?_
                  refine ol_skip (wn_some rfl rfl rfl rfl rfl) rfl ?_
                  refine ol_q (wn_none rfl) (op_pick_t (v := .bool _) rfl rfl rfl) rfl ?_
                  refine ol_nil_then ?_
                  refine cd_cond_t rfl rfl ?_
                  refine cd_sr ?_   -- 31
                  refine ol_q (wn_none rfl) (op_build (L := msgC _) (vs := []) bB_45 rfl trivial rfl) rfl ?_
                  refine ol_pull2 ?_
                  refine ol_iN (wn_none rfl) (os_storew (msgC _) ag_45 rfl rfl (msgC_len _) (msgC_one _) (by simp [msgC_len]) (Free.zero _)) ?_; rintro _ _ ⟨rfl, rfl⟩
                  refine ol_q (wn_none rfl) (op_assign (v := .bool _) rfl) rfl ?_
                  refine ol_nil_then ?_
                  refine cd_ret ?_
                  refine px_thenR ?_
                  have hd : decW src = (MsgP.zero, false) := decW_0 hk1 hk2 hk3
                  exact px_rv2 rfl (rv_cella 0 ag_45 rfl rfl (msgC_ta _) (by simp [msgC_len])) (rv_tmp rfl) (fun _ s => Sat.rowNil (((s.del 2).del 1).del 0)) ⟨none, 0, by rw [hd]; rfl, by rw [hd]; rfl⟩
                · have hp25 := hb25
                  (try simp only [decide_eq_true_eq, decide_eq_false_iff_not, Bool.not_eq_true', Bool.not_eq_false', ne_eq, Decidable.not_not] at hp25)
                  omega
end Go.SL

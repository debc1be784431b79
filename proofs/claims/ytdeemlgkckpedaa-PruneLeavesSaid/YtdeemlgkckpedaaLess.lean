import Derived.Test.YtdeemlgkckpedaaMRef
import Derived.Test.YtdeemlgkckpedaaFacts
import Derived.Test.YtdeemlgkckpedaaMWei2
set_option linter.unusedVariables false
set_option linter.unusedSimpArgs false
namespace Go.SL
open Go.Proofs

set_option maxRecDepth 100000 in
set_option maxHeartbeats 1000000 in
theorem Less_calls {w0 w : World} {l : List HProp} (a b : Root) (hs : Sat w0 w (l))  :
  Calls Try.prog 106 #[.agg (rootC a).toArray, .agg (rootC b).toArray] w (Ret w0 fun v l' => v = .bool (Op.bytesLess a.1 b.1) ∧ l' = l) := by
 refine calls_enter Try.func106 rfl rfl rfl hs ?_
 refine cd_sr ?_
 refine oi (os_boxa rfl) ?_; rintro _ _ ⟨bx1, rfl, rfl⟩
 refine oi (os_boxa rfl) ?_; rintro _ _ ⟨bx2, rfl, rfl⟩
 refine oq (op_assign (v := .bool _) rfl) ?_
 refine ol_nil_then ?_
 refine cd_seq ?_
 refine cd_draw (M := []) mx [] (by kernel_rfl) ?_
 refine rg_q (wn_none rfl) (op_slicea_all a1_24 rfl) rfl rfl ?_
 refine rg_q (wn_none rfl) (op_b2s sB_162 Try.underlying5 Try.underlying9 rfl (rds_root 1 rfl) (root_len _)) rfl rfl ?_
 refine rg_q (wn_none rfl) (op_slicea_all a1_24 rfl) rfl rfl ?_
 refine rg_q (wn_none rfl) (op_b2s sB_162 Try.underlying5 Try.underlying9 rfl (rds_root 0 rfl) (root_len _)) rfl rfl ?_
 refine rg_q (wn_none rfl) (op_slss rfl rfl) rfl rfl ?_
 refine rg_q (wn_none rfl) (op_assign (v := .bool _) rfl) rfl rfl ?_
 refine rg_nil_then0 ?_
 refine cd_ret ?_
 exact px_ret1 rfl (v := .bool _) rfl (fun _ s => ((s.del 1).del 0)) ⟨rfl, rfl⟩

set_option maxRecDepth 100000 in
set_option maxHeartbeats 1000000 in
theorem RLess_calls {w0 w : World} {l : List HProp} (a b : Root) (hs : Sat w0 w (l))  :
  Calls Try.prog 82 #[.agg (rootC a).toArray, .agg (rootC b).toArray] w (Ret w0 fun v l' => v = .bool (Op.bytesLess a.1 b.1) ∧ l' = l) := by
 refine calls_enter Try.func82 rfl rfl rfl hs ?_
 refine cd_sr ?_
 refine oi (os_boxa rfl) ?_; rintro _ _ ⟨bx1, rfl, rfl⟩
 refine oi (os_boxa rfl) ?_; rintro _ _ ⟨bx2, rfl, rfl⟩
 refine oq (op_assign (v := .bool _) rfl) ?_
 refine ol_nil_then ?_
 refine cd_seq ?_
 refine cd_sr ?_
 refine oq (op_move (v := .int _ _) rfl) ?_
 refine ol_nil_then ?_
 refine cd_block ?_
 refine cd_loop2 (α := Nat) [(4, 23)] (fun x => [(6, .int .i64 (x : Int))]) (fun _ => _) (fun x => x ≤ 32 ∧ ∀ q, q < x → a.1.getD q 0 = b.1.getD q 0) (fun x => 32 - x) 0 ⟨Nat.zero_le _, fun q h => absurd h (Nat.not_lt_zero _)⟩ ⟨rfl, trivial⟩ (fun _ s => s) ?_
 rintro i ⟨hi, hno⟩ f; (try dsimp only at hi hno ⊢)
 refine cd_sr ?_
 refine oq (op_lt rfl rfl) ?_
 refine ol_nil_then ?_
 refine cd_seq ?_
 refine cd_cond rfl (fun hb1 => ?_) (fun hb1 => ?_)
 ·have hp1 := hb1
  (try simp only [bn] at hp1)
  have hi32 : i < 32 := by omega
  refine cd_skip ?_
  refine px_then ?_
  refine cd_seq ?_
  refine cd_block ?_
  refine cd_sr ?_
  refine oq (op_move (v := .int _ _) rfl) ?_
  refine oq (op_assign (v := .int _ _) rfl) ?_
  refine ol_nil_then ?_
  refine cd_seq ?_
  refine cd_draw (M := []) mx [] (by kernel_rfl) ?_
  refine rg_q (wn_none rfl) (op_move (v := .int _ _) rfl) rfl rfl ?_
  refine rg_q (wn_none rfl) (op_aidx0 _ a1_24 rfl rfl rfl (by omega)) rfl rfl ?_
  refine rg_q (wn_none rfl) (op_ld 1 sc_5 rfl rfl (rootC_gd _ hi32)) rfl rfl ?_
  refine rg_q (wn_none rfl) (op_move (v := .int _ _) rfl) rfl rfl ?_
  refine rg_q (wn_none rfl) (op_aidx0 _ a1_24 rfl rfl rfl (by omega)) rfl rfl ?_
  refine rg_q (wn_none rfl) (op_ld 0 sc_5 rfl rfl (rootC_gd _ hi32)) rfl rfl ?_
  refine rg_q (wn_none rfl) (op_ne rfl rfl) rfl rfl ?_
  refine rg_nil_then0 ?_
  refine cd_cond rfl (fun hb2 => ?_) (fun hb2 => ?_)
  ·have hp2 := hb2
   (try simp only [bn] at hp2)
   have hne : a.1.getD i 0 ≠ b.1.getD i 0 := fun h => by rw [h] at hb2; simp at hb2
   refine cd_seq ?_
   refine cd_draw (M := []) mx [] (by kernel_rfl) ?_
   refine rg_q (wn_none rfl) (op_move (v := .int _ _) rfl) rfl rfl ?_
   refine rg_q (wn_none rfl) (op_aidx0 _ a1_24 rfl rfl rfl (by omega)) rfl rfl ?_
   refine rg_q (wn_none rfl) (op_ld 1 sc_5 rfl rfl (rootC_gd _ hi32)) rfl rfl ?_
   refine rg_q (wn_none rfl) (op_move (v := .int _ _) rfl) rfl rfl ?_
   refine rg_q (wn_none rfl) (op_aidx0 _ a1_24 rfl rfl rfl (by omega)) rfl rfl ?_
   refine rg_q (wn_none rfl) (op_ld 0 sc_5 rfl rfl (rootC_gd _ hi32)) rfl rfl ?_
   refine rg_q (wn_none rfl) (op_lt rfl rfl) rfl rfl ?_
   refine rg_q (wn_none rfl) (op_assign (v := .bool _) rfl) rfl rfl ?_
   refine rg_nil_then0 ?_
   refine cd_ret ?_
   refine px_blockR ?_
   refine px_thenR ?_
   refine px_thenR ?_
   refine px_blockR ?_
   refine px_thenR ?_
   exact px_ret1 rfl (v := .bool _) rfl (fun _ s => ((s.del 1).del 0)) ⟨congrArg Value.bool (by rw [bl_at (by rw [a.2]; omega) (by rw [b.2]; omega) hno hne]; exact decide_eq_decide.2 ⟨fun h => lt8.2 (by omega), fun h => by have := lt8.1 h; omega⟩), rfl⟩
  ·have hp2 := hb2
   (try simp only [bn] at hp2)
   have hne : a.1.getD i 0 = b.1.getD i 0 := UInt8.toNat_inj.1 (by simp at hb2; omega)
   refine cd_skip ?_
   refine px_blockN ?_
   refine px_then ?_
   refine cd_region ?_
   refine oq (op_add rfl rfl (by omega) (by omega)) ?_
   refine oq (op_move (v := .int _ _) rfl) ?_
   refine ol_nil ?_
   refine px_loop2 (i + 1) ⟨by omega, fun q h2 => by rcases Nat.lt_succ_iff_lt_or_eq.1 h2 with h3 | h3; exact hno q h3; subst h3; exact hne⟩ (by (try dsimp only); omega) ⟨congrArg (Value.int .i64) (by simp), trivial⟩ ?_ (fun _ s => s)
   repeat (first | exact kept_over | refine kept_upd rfl ?_ | refine kept_overS (by decide) ?_)
 ·have hp1 := hb1
  (try simp only [bn] at hp1)
  refine cd_exit ?_
  refine px_thenE ?_
  refine px_thenE ?_
  refine px_blockE ?_
  refine px_then ?_
  refine cd_sr ?_
  refine oq (op_assign (v := .bool _) rfl) ?_
  refine ol_nil_then ?_
  refine cd_ret ?_
  exact px_ret1 rfl (v := .bool _) rfl (fun _ s => ((s.del 1).del 0)) ⟨congrArg Value.bool (by rw [root_ext (a := a) (b := b) (fun j hj => hno j (by omega)), bl_irrefl]), rfl⟩
end Go.SL

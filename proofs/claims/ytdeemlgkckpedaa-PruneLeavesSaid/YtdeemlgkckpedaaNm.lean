import Derived.Test.YtdeemlgkckpedaaEnh
import Derived.Test.YtdeemlgkckpedaaFacts
set_option linter.unusedVariables false
set_option linter.unusedSimpArgs false
namespace Go.SL
open Go.Proofs

set_option maxRecDepth 100000 in
theorem Name_calls {w0 w : World} {l : List HProp} (n : Int) (hs : Sat w0 w (l))  :
  Calls Try.prog 17 #[.int .i64 n] w (Ret w0 fun v l' => v = .agg (rootC (nameR n)).toArray ∧ l' = l) := by
 refine calls_enter Try.func17 rfl rfl rfl hs ?_
 refine cd_sr ?_
 refine oi (os_alloc (cs := (rootC Root.zero).toArray) zB_24 (by kernel_rfl)) ?_; rintro _ _ ⟨bx1, rfl, rfl⟩
 refine ol_nil_then ?_
 refine cd_sr ?_
 refine oi (os_alloc (cs := (rootC Root.zero).toArray) zB_24 (by kernel_rfl)) ?_; rintro _ _ ⟨bx2, rfl, rfl⟩
 refine ol_nil_then ?_
 refine cd_sr ?_
 refine oq (op_move (v := .int _ _) rfl) ?_
 refine oq (op_conv8i Try.underlying5 (by rw [Try.underlying3]; rfl) rfl) ?_
 refine oq (op_aidx 0 a1_24 rfl rfl rfl (by decide)) ?_
 refine oN (os_storer _ sc_5 rfl rfl (by decide) (Free.zero _)) ?_; rintro _ _ ⟨rfl, rfl⟩
 refine ol_nil_then ?_
 refine cd_sr ?_
 refine oq (op_move (v := .int _ _) rfl) ?_
 refine oq (op_mulw rfl rfl) ?_
 refine oq (op_conv8i Try.underlying5 (by rw [Try.underlying3]; rfl) rfl) ?_
 refine oq (op_aidx 31 a1_24 rfl rfl rfl (by decide)) ?_
 refine oN (os_storer _ sc_5 rfl rfl (by decide) (Free.zero _)) ?_; rintro _ _ ⟨rfl, rfl⟩
 refine ol_nil_then ?_
 refine cd_sr ?_
 refine oq (op_lda (L := rootC _) 0 ag_24 rfl rfl (rootC_take' _) (by simp [rootC_len])) ?_
 refine ol_pull1 ?_
 refine oN (os_storera _ ag_24 rfl rfl (Free.zero _)) ?_; rintro _ _ ⟨rfl, rfl⟩
 refine ol_nil_then ?_
 refine cd_ret ?_
 exact px_rv1 rfl (rv_cella 0 ag_24 rfl rfl (rootC_take' _) (by simp [rootC_len])) (fun _ s => ((s.del 1).del 0)) ⟨rfl, rfl⟩
end Go.SL

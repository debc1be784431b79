import Derived.Test.YtkgnmkklldpbgaaEnh
import Derived.Test.YtkgnmkklldpbgaaFacts
set_option linter.unusedVariables false
set_option linter.unusedSimpArgs false
namespace Go.SL
open Go.Proofs

/-- the name of a small number -/
def nameR (n : Int) : Root := (Root.zero.set 0 (byteI n)).set 31 (byteI (IntKind.i64.wrap (7 * n)))

set_option maxRecDepth 100000 in
theorem Name_calls {w0 w : World} {l : List HProp} (n : Int) (hs : Sat w0 w (l))  :
    Calls Try.prog 31 #[.int .i64 n] w (Ret w0 fun v l' => v = .agg (rootC (nameR n)).toArray ∧ l' = l) := by
  refine calls_enter Try.func31 rfl rfl rfl hs ?_
  refine cd_sr ?_   -- 0
  refine ol_i (wn_none rfl) (os_alloc (cs := (rootC Root.zero).toArray) zB_29 (by kernel_rfl)) rfl ?_; rintro _ _ ⟨bx1, rfl, rfl⟩
  refine ol_nil_then ?_
  refine cd_sr ?_   -- 1
  refine ol_i (wn_none rfl) (os_alloc (cs := (rootC Root.zero).toArray) zB_29 (by kernel_rfl)) rfl ?_; rintro _ _ ⟨bx2, rfl, rfl⟩
  refine ol_nil_then ?_
  refine cd_sr ?_   -- 2
  refine ol_q (wn_none rfl) (op_move (v := .int _ _) rfl) rfl ?_
  refine ol_q (wn_none rfl) (op_conv8i Try.underlying5 (by rw [Try.underlying3]; rfl) rfl) rfl ?_
  refine ol_q (wn_none rfl) (op_aidx 0 a1_29 rfl rfl rfl (by decide)) rfl ?_
  refine ol_iN (wn_none rfl) (os_storer _ sc_5 rfl rfl (by decide) (Free.zero _)) ?_; rintro _ _ ⟨rfl, rfl⟩
  refine ol_nil_then ?_
  refine cd_sr ?_   -- 3
  refine ol_q (wn_none rfl) (op_move (v := .int _ _) rfl) rfl ?_
  refine ol_q (wn_none rfl) (op_mulw rfl rfl) rfl ?_
  refine ol_q (wn_none rfl) (op_conv8i Try.underlying5 (by rw [Try.underlying3]; rfl) rfl) rfl ?_
  refine ol_q (wn_none rfl) (op_aidx 31 a1_29 rfl rfl rfl (by decide)) rfl ?_
  refine ol_iN (wn_none rfl) (os_storer _ sc_5 rfl rfl (by decide) (Free.zero _)) ?_; rintro _ _ ⟨rfl, rfl⟩
  refine ol_nil_then ?_
  refine cd_sr ?_   -- 4
  refine ol_q (wn_none rfl) (op_lda (L := rootC _) 0 ag_29 rfl rfl (rootC_take' _) (by simp [rootC_len])) rfl ?_
  refine ol_pull1 ?_
  refine ol_iN (wn_none rfl) (os_storera _ ag_29 rfl rfl (Free.zero _)) ?_; rintro _ _ ⟨rfl, rfl⟩
  refine ol_nil_then ?_
  refine cd_ret ?_
  exact px_rv1 rfl (rv_cella 0 ag_29 rfl rfl (rootC_take' _) (by simp [rootC_len])) (fun _ s => ((s.del 1).del 0)) ⟨rfl, rfl⟩

set_option maxRecDepth 100000 in
theorem vote_calls {w0 w : World} {l : List HProp} (c : TCall) (hs : Sat w0 w (l))  :
    Calls Try.prog 17 #[.agg (tCallC c).toArray] w (Ret w0 fun v l' => v = .agg (voteC ⟨c.who, c.slot, nameR c.nr⟩).toArray ∧ l' = l) := by
  refine calls_enter Try.func17 rfl rfl rfl hs ?_
  refine cd_sr ?_   -- 0
  refine ol_i (wn_none rfl) (os_boxa rfl) rfl ?_; rintro _ _ ⟨bx1, rfl, rfl⟩
  refine ol_i (wn_none rfl) (os_alloc (cs := (voteC Vote.zero).toArray) zB_31 (by kernel_rfl)) rfl ?_; rintro _ _ ⟨bx2, rfl, rfl⟩
  refine ol_nil_then ?_
  refine cd_seq ?_   -- 1
  refine cd_drawt (M := []) mx [6] 8 (by kernel_rfl) rfl rfl ?_
  dsimp only [List.take_succ_cons, List.take_zero, List.drop_succ_cons, List.drop_zero]
  refine rg_q (wn_none rfl) (op_field fld_27_1 rfl) rfl rfl ?_
  refine rg_q (wn_none rfl) (op_ld 1 sc_3 rfl rfl (tCallC_a1 _)) rfl rfl ?_
  refine rg_q (wn_none rfl) (op_field fld_27_2 rfl) rfl rfl ?_
  refine rg_q (wn_none rfl) (op_ld 1 sc_3 rfl rfl (tCallC_a2 _)) rfl rfl ?_
  refine rg_q (wn_none rfl) (op_field fld_27_3 rfl) rfl rfl ?_
  refine rg_q (wn_none rfl) (op_ld 1 sc_3 rfl rfl (tCallC_a3 _)) rfl rfl ?_
  refine rg_i (wn_none rfl) (os_call cb_31 rfl (fun w s => Name_calls _  s )) rfl rfl ?_; rintro _ l ⟨rfl, rfl⟩; refine ⟨[], rfl, ?_⟩
  refine rg_q (wn_none rfl) (op_build (L := voteC _) (vs := [(0, .int _ _), (1, .int _ _), (2, .agg (rootC _).toArray)]) bB_31 rfl ⟨⟨rfl, by rw [voteC_len]; rfl⟩, ⟨rfl, by rw [voteC_len]; rfl⟩, ⟨by simp [Value.cells, rootC_len], by rw [voteC_len]; rfl⟩, trivial⟩ ((voteC_b0 _ _ _).trans ((voteC_b1 _ _ _).trans ((voteC_b2 _ _ _).trans rfl)))) rfl rfl ?_
  refine rg_tail0 ?_
  refine ol_iN (wn_none rfl) (os_storew (voteC _) ag_31 rfl rfl (voteC_len _) (voteC_one _) (by simp [voteC_len]) (Free.zero _)) ?_; rintro _ _ ⟨rfl, rfl⟩
  refine ol_nil_then ?_
  refine cd_ret ?_
  exact px_rv1 rfl (rv_cella 0 ag_31 rfl rfl (voteC_ta _) (by simp [voteC_len])) (fun _ s => ((s.del 1).del 0)) ⟨rfl, rfl⟩
end Go.SL

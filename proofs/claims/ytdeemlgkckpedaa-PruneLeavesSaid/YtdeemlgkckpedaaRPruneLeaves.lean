/- The law PruneLeaves of this seat: it answers true, whatever it is given, and leaves what it is given as it was. -/
import Derived.Test.YtdeemlgkckpedaaRows
import Derived.Test.YtdeemlgkckpedaaPrnL2
import Derived.KernelRfl
set_option linter.unusedVariables false
set_option linter.unusedSimpArgs false
namespace Go.Proofs.Ytdeemlgkckpedaa.RPruneLeaves
open Go.SL Go.RowKit Go.ChangeShapes Go.WideShapes
theorem own : ownKnob Try.prog.godebug = none := by kernel_rfl
theorem laid : laidOutB Try.prog = true := by kernel_rfl
set_option maxRecDepth 100000 in
theorem lifted (os : Os) (started : os.Started) (H : Type) (enc : TypeId × Value → H) :
    ReturnsInHanded {} Try.checked os 5 .any (Rows.pruneLeavesSpec.pre6 enc Try.prog Try.f5 Rows.pruneLeavesRow.domain false) (Rows.pruneLeavesSpec.post enc Try.prog Try.f5 false true false false) := by
  refine law_lifted (C := Try.checked) (tb := 4) own started (by kernel_rfl) Try.func5
    (ChangeSpec.witness6 (enc := enc) (C := Try.checked) false ⟨#[], #[.slice none 0 0], []⟩ 8 (by kernel_rfl) (by kernel_rfl) (by kernel_rfl) (by kernel_rfl))
    laid (readsB_spec (by kernel_rfl)) rfl (by kernel_rfl) Try.underlying4 (fun ds h => match ds, h with | [d0], _ => rfl) ?_
  intro W base args ds p hval0 hA0
  have hval : ∀ (j : Nat) t v, Try.f5.params[j]? = some t → args[j]? = some v → Value.okWide Try.prog W .any base t v := hval0
  have hA : DataW.TrodAll enc Try.prog W 0 (fun _ => true) true Try.f5.params.toList args.toList ds p := hA0
  rw [Try.params5] at hA hval
  obtain ⟨v0, vs0, d0, ds0, p0, q0, hargs, rfl, rfl, h0, r0⟩ := trodAll_cons hA
  obtain ⟨rfl, rfl, rfl⟩ := trodAll_nil r0
  obtain rfl : args = #[v0] := by cases args; simp_all
  obtain ⟨ao0, c0, xs0, hv0, hc0, hcm0, hsh0, hq0⟩ := open_slice Try.underlying22 (hval 0 22 v0 rfl rfl) h0 (opens_slice encPBlk Try.underlying22 (by kernel_rfl) opens_PBlk)
  obtain rfl : v0 = _ := by simpa using hv0
  exact PruneLeaves_calls ao0 c0 xs0 (Sat.start W) (hsh0.rds 0 rfl) hq0
theorem proved : Rows.PruneLeavesSaid :=
  OpenClaim.holds_of_wide 5 Try.f5 rfl rfl rfl rfl rfl rfl rfl ⟨rfl, rfl, rfl, rfl, rfl⟩ rfl rfl rfl rfl rfl (by kernel_rfl) Try.func5 (by kernel_rfl)
    (of_decide_eq_true (by kernel_rfl)) (by unfold Func.isWrapper; first | (rw [if_pos (by decide +kernel)]; kernel_rfl) | (rw [if_neg (by decide +kernel)]; exact ⟨rfl, rfl⟩))
    (fun os started H enc _ => lifted os started H enc)
end Go.Proofs.Ytdeemlgkckpedaa.RPruneLeaves

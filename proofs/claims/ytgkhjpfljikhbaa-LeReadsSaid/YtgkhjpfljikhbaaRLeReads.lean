/- The law LeReads of this seat: it answers true, whatever it is given, and leaves what it is given as it was. -/
import Derived.Test.YtgkhjpfljikhbaaRows
import Derived.Test.YtgkhjpfljikhbaaLeLaws
import Derived.KernelRfl
set_option linter.unusedVariables false
set_option linter.unusedSimpArgs false
namespace Go.Proofs.Ytgkhjpfljikhbaa.RLeReads
open Go.SL Go.RowKit Go.ChangeShapes Go.WideShapes
theorem own : ownKnob Try.prog.godebug = none := by kernel_rfl
theorem laid : laidOutB Try.prog = true := by kernel_rfl
set_option maxRecDepth 100000 in
theorem lifted (os : Os) (started : os.Started) (H : Type) (enc : TypeId × Value → H) :
    ReturnsInHanded {} Try.checked os 8 .any (Rows.leReadsSpec.pre6 enc Try.prog Try.f8 Rows.leReadsRow.domain false) (Rows.leReadsSpec.post enc Try.prog Try.f8 false true false false) := by
  refine law_lifted (C := Try.checked) (tb := 4) own started (by kernel_rfl) Try.func8
    (ChangeSpec.witness6 (enc := enc) (C := Try.checked) false ⟨#[], #[.string ⟨#[]⟩, .slice none 0 0], []⟩ 8 (by kernel_rfl) (by kernel_rfl) (by kernel_rfl) (by kernel_rfl))
    laid (readsB_spec (by kernel_rfl)) rfl (by kernel_rfl) Try.underlying4 (fun ds h => match ds, h with | [d0, d1], _ => rfl) ?_
  intro W base args ds p hval0 hA0
  have hval : ∀ (j : Nat) t v, Try.f8.params[j]? = some t → args[j]? = some v → Value.okWide Try.prog W .any base t v := hval0
  have hA : DataW.TrodAll enc Try.prog W 0 (fun _ => true) true Try.f8.params.toList args.toList ds p := hA0
  rw [Try.params8] at hA hval
  obtain ⟨v0, vs0, d0, ds0, p0, q0, hargs, rfl, rfl, h0, r0⟩ := trodAll_cons hA
  obtain ⟨v1, vs1, d1, ds1, p1, q1, rfl, rfl, rfl, h1, r1⟩ := trodAll_cons r0
  obtain ⟨rfl, rfl, rfl⟩ := trodAll_nil r1
  obtain rfl : args = #[v0, v1] := by cases args; simp_all
  obtain ⟨s0, rfl, hs0⟩ := open_text Try.underlying9 (hval 0 9 v0 rfl rfl) h0
  obtain ⟨ao1, c1, xs1, hv1, hc1, hcm1, hsh1, hq1⟩ := open_slice Try.underlying42 (hval 1 42 v1 rfl rfl) h1 (opens_slice encAsk Try.underlying42 (by kernel_rfl) opens_ask)
  obtain rfl : v1 = _ := by simpa using hv1
  exact LeReads_calls s0 ao1 c1 xs1 (Sat.start W) (hsh1.rds 0 rfl) hq1
theorem proved : Rows.LeReadsSaid :=
  OpenClaim.holds_of_wide 8 Try.f8 rfl rfl rfl rfl rfl rfl rfl ⟨rfl, rfl, rfl, rfl, rfl⟩ rfl rfl rfl rfl rfl (by kernel_rfl) Try.func8 (by kernel_rfl)
    (of_decide_eq_true (by kernel_rfl)) (by unfold Func.isWrapper; first | (rw [if_pos (by decide +kernel)]; kernel_rfl) | (rw [if_neg (by decide +kernel)]; exact ⟨rfl, rfl⟩))
    (fun os started H enc _ => lifted os started H enc)
end Go.Proofs.Ytgkhjpfljikhbaa.RLeReads

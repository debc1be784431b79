/- The law WeighTurns of this seat: it answers true, whatever it is given, and leaves what it is given as it was. -/
import Derived.Test.YtbgnabofcceajaaRows
import Derived.Test.YtbgnabofcceajaaWeiL8
import Derived.KernelRfl
set_option linter.unusedVariables false
set_option linter.unusedSimpArgs false
namespace Go.Proofs.Ytbgnabofcceajaa.RWeighTurns
open Go.SL Go.RowKit Go.ChangeShapes Go.WideShapes
theorem own : ownKnob Try.prog.godebug = none := by kernel_rfl
theorem laid : laidOutB Try.prog = true := by kernel_rfl
set_option maxRecDepth 100000 in
theorem lifted (os : Os) (started : os.Started) (H : Type) (enc : TypeId × Value → H) :
    ReturnsInHanded {} Try.checked os 10 .any (Rows.weighTurnsSpec.pre6 enc Try.prog Try.f10 Rows.weighTurnsRow.domain false) (Rows.weighTurnsSpec.post enc Try.prog Try.f10 false true false false) := by
  refine law_lifted (C := Try.checked) (tb := 4) own started (by kernel_rfl) Try.func10
    (ChangeSpec.witness6 (enc := enc) (C := Try.checked) false ⟨#[], #[.slice none 0 0, .slice none 0 0, .slice none 0 0], []⟩ 8 (by kernel_rfl) (by kernel_rfl) (by kernel_rfl) (by kernel_rfl))
    laid (readsB_spec (by kernel_rfl)) rfl (by kernel_rfl) Try.underlying4 (fun ds h => match ds, h with | [d0, d1, d2], _ => rfl) ?_
  intro W base args ds p hval0 hA0
  have hval : ∀ (j : Nat) t v, Try.f10.params[j]? = some t → args[j]? = some v → Value.okWide Try.prog W .any base t v := hval0
  have hA : DataW.TrodAll enc Try.prog W 0 (fun _ => true) true Try.f10.params.toList args.toList ds p := hA0
  rw [Try.params10] at hA hval
  obtain ⟨v0, vs0, d0, ds0, p0, q0, hargs, rfl, rfl, h0, r0⟩ := trodAll_cons hA
  obtain ⟨v1, vs1, d1, ds1, p1, q1, rfl, rfl, rfl, h1, r1⟩ := trodAll_cons r0
  obtain ⟨v2, vs2, d2, ds2, p2, q2, rfl, rfl, rfl, h2, r2⟩ := trodAll_cons r1
  obtain ⟨rfl, rfl, rfl⟩ := trodAll_nil r2
  obtain rfl : args = #[v0, v1, v2] := by cases args; simp_all
  obtain ⟨ao0, c0, xs0, hv0, hc0, hcm0, hsh0, hq0⟩ := open_slice Try.underlying57 (hval 0 57 v0 rfl rfl) h0 (opens_slice encWAct Try.underlying57 (by kernel_rfl) opens_WAct)
  obtain rfl : v0 = _ := by simpa using hv0
  obtain ⟨ao1, c1, xs1, hv1, hc1, hcm1, hsh1, hq1⟩ := open_slice Try.underlying71 (hval 1 71 v1 rfl rfl) h1 (opens_slice encI64 Try.underlying71 (by kernel_rfl) (opens_i64 Try.underlying3))
  obtain rfl : v1 = _ := by simpa using hv1
  obtain ⟨ao2, c2, xs2, hv2, hc2, hcm2, hsh2, hq2⟩ := open_slice Try.underlying71 (hval 2 71 v2 rfl rfl) h2 (opens_slice encI64 Try.underlying71 (by kernel_rfl) (opens_i64 Try.underlying3))
  obtain rfl : v2 = _ := by simpa using hv2
  exact WeighTurns_calls ao0 c0 xs0 ao1 c1 xs1 ao2 c2 xs2 (Sat.start W) (hsh0.rds 0 rfl) hq0 (hsh1.rds 0 rfl) hq1 (hsh2.rds 0 rfl) hq2
theorem proved : Rows.WeighTurnsSaid :=
  OpenClaim.holds_of_wide 10 Try.f10 rfl rfl rfl rfl rfl rfl rfl ⟨rfl, rfl, rfl, rfl, rfl⟩ rfl rfl rfl rfl rfl (by kernel_rfl) Try.func10 (by kernel_rfl)
    (of_decide_eq_true (by kernel_rfl)) (by unfold Func.isWrapper; first | (rw [if_pos (by decide +kernel)]; kernel_rfl) | (rw [if_neg (by decide +kernel)]; exact ⟨rfl, rfl⟩))
    (fun os started H enc _ => lifted os started H enc)
end Go.Proofs.Ytbgnabofcceajaa.RWeighTurns

/- The law MacKeys of this seat: it answers true, whatever it is given, and leaves what it is given as it was. -/
import Derived.Test.YtoeodcnpmhbhmaaRows
import Derived.Test.YtoeodcnpmhbhmaaMac3
import Derived.KernelRfl
set_option linter.unusedVariables false
set_option linter.unusedSimpArgs false
namespace Go.Proofs.Ytoeodcnpmhbhmaa.RMacKeys
open Go.SL Go.RowKit Go.ChangeShapes Go.WideShapes
theorem own : ownKnob Try.prog.godebug = none := by kernel_rfl
theorem laid : laidOutB Try.prog = true := by kernel_rfl
set_option maxRecDepth 100000 in
theorem lifted (os : Os) (started : os.Started) (H : Type) (enc : TypeId × Value → H) :
    ReturnsInHanded {} Try.checked os 7 .any (Rows.macKeysSpec.pre6 enc Try.prog Try.f7 Rows.macKeysRow.domain false) (Rows.macKeysSpec.post enc Try.prog Try.f7 false true false false) := by
  refine law_liftedZ (C := Try.checked) (tb := 4) own started (by kernel_rfl) Try.func7
    (ChangeSpec.witness6 (enc := enc) (C := Try.checked) false ⟨#[], #[.string ⟨#[]⟩, .int .i64 0, .string ⟨#[]⟩], []⟩ 8 (by kernel_rfl) (by kernel_rfl) (by kernel_rfl) (by kernel_rfl))
    laid (readsB_spec (by kernel_rfl)) rfl (by kernel_rfl) Try.underlying4 (fun ds h => match ds, h with | [d0, d1, d2], _ => rfl) ?_
  intro W base args ds p hval0 hA0 hsz0
  have hval : ∀ (j : Nat) t v, Try.f7.params[j]? = some t → args[j]? = some v → Value.okWide Try.prog W .any base t v := hval0
  have hA : DataW.TrodAll enc Try.prog W 0 (fun _ => true) true Try.f7.params.toList args.toList ds p := hA0
  rw [Try.params7] at hA hval
  obtain ⟨v0, vs0, d0, ds0, p0, q0, hargs, rfl, rfl, h0, r0⟩ := trodAll_cons hA
  obtain ⟨v1, vs1, d1, ds1, p1, q1, rfl, rfl, rfl, h1, r1⟩ := trodAll_cons r0
  obtain ⟨v2, vs2, d2, ds2, p2, q2, rfl, rfl, rfl, h2, r2⟩ := trodAll_cons r1
  obtain ⟨rfl, rfl, rfl⟩ := trodAll_nil r2
  obtain rfl : args = #[v0, v1, v2] := by cases args; simp_all
  obtain ⟨s0, rfl, rfl⟩ := open_textZ Try.underlying9 (hval 0 9 v0 rfl rfl) h0
  have hz0 := sized_string hsz0 (j := 0) (t := 9) rfl rfl
  obtain ⟨n1, rfl, hm1⟩ := open_num Try.underlying3 (hval 1 3 v1 rfl rfl) h1
  have hn1 := wf_i64 hm1
  obtain ⟨s2, rfl, rfl⟩ := open_textZ Try.underlying9 (hval 2 9 v2 rfl rfl) h2
  have hz2 := sized_string hsz0 (j := 2) (t := 9) rfl rfl
  exact MacKeys_calls s0 n1 s2 (Sat.start W) hz0 hz2
theorem proved : Rows.MacKeysSaid :=
  OpenClaim.holds_of_wide 7 Try.f7 rfl rfl rfl rfl rfl rfl rfl ⟨rfl, rfl, rfl, rfl, rfl⟩ rfl rfl rfl rfl rfl (by kernel_rfl) Try.func7 (by kernel_rfl)
    (of_decide_eq_true (by kernel_rfl)) (by unfold Func.isWrapper; first | (rw [if_pos (by decide +kernel)]; kernel_rfl) | (rw [if_neg (by decide +kernel)]; exact ⟨rfl, rfl⟩))
    (fun os started H enc _ => lifted os started H enc)
end Go.Proofs.Ytoeodcnpmhbhmaa.RMacKeys

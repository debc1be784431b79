/- The law WireIs of this seat: it answers true, whatever it is given, and leaves what it is given as it was. -/
import Derived.Test.YtgdlddjalilmhaaRows
import Derived.Test.YtgdlddjalilmhaaWire5
import Derived.KernelRfl
set_option linter.unusedVariables false
set_option linter.unusedSimpArgs false
namespace Go.Proofs.Ytgdlddjalilmhaa.RWireIs
open Go.SL Go.RowKit Go.ChangeShapes Go.WideShapes
theorem own : ownKnob Try.prog.godebug = none := by kernel_rfl
theorem laid : laidOutB Try.prog = true := by kernel_rfl
set_option maxRecDepth 100000 in
theorem lifted (os : Os) (started : os.Started) (H : Type) (enc : TypeId × Value → H) :
    ReturnsInHanded {} Try.checked os 14 .any (Rows.wireIsSpec.pre6 enc Try.prog Try.f14 Rows.wireIsRow.domain false) (Rows.wireIsSpec.post enc Try.prog Try.f14 false true false false) := by
  refine law_lifted (C := Try.checked) (tb := 4) own started (by kernel_rfl) Try.func14
    (ChangeSpec.witness6 (enc := enc) (C := Try.checked) false ⟨#[], #[.agg #[.int .i64 0, .int .i64 0, .int .u8 0, .int .u8 0, .int .u8 0, .int .u8 0, .int .u8 0, .int .u8 0, .int .u8 0, .int .u8 0, .int .u8 0, .int .u8 0, .int .u8 0, .int .u8 0, .int .u8 0, .int .u8 0, .int .u8 0, .int .u8 0, .int .u8 0, .int .u8 0, .int .u8 0, .int .u8 0, .int .u8 0, .int .u8 0, .int .u8 0, .int .u8 0, .int .u8 0, .int .u8 0, .int .u8 0, .int .u8 0, .int .u8 0, .int .u8 0, .int .u8 0, .int .u8 0, .int .i64 0, .int .u64 0, .slice none 0 0, .int .u8 0, .int .u8 0, .int .u8 0, .int .u8 0, .int .u8 0, .int .u8 0, .int .u8 0, .int .u8 0, .int .u8 0, .int .u8 0, .int .u8 0, .int .u8 0, .int .u8 0, .int .u8 0, .int .u8 0, .int .u8 0]], []⟩ 8 (by kernel_rfl) (by kernel_rfl) (by kernel_rfl) (by kernel_rfl))
    laid (readsB_spec (by kernel_rfl)) rfl (by kernel_rfl) Try.underlying4 (fun ds h => match ds, h with | [d0], _ => rfl) ?_
  intro W base args ds p hval0 hA0
  have hval : ∀ (j : Nat) t v, Try.f14.params[j]? = some t → args[j]? = some v → Value.okWide Try.prog W .any base t v := hval0
  have hA : DataW.TrodAll enc Try.prog W 0 (fun _ => true) true Try.f14.params.toList args.toList ds p := hA0
  rw [Try.params14] at hA hval
  obtain ⟨v0, vs0, d0, ds0, p0, q0, hargs, rfl, rfl, h0, r0⟩ := trodAll_cons hA
  obtain ⟨rfl, rfl, rfl⟩ := trodAll_nil r0
  obtain rfl : args = #[v0] := by cases args; simp_all
  obtain ⟨cs0, hv0, q0, hcs0, ⟨ys0, hn0, hc0, hm0, hsh0, hq0⟩, hk0, hsl0, hmb0, hbd0⟩ := open_agg Try.underlying45 (hval 0 45 v0 rfl rfl) h0 opens_Msg
  obtain rfl : cs0 = (msgC q0).toArray := by apply Array.toList_inj.1; rw [hcs0]; rfl
  subst hv0
  obtain ⟨k0, sl0, tg0, mb0, bd0, ⟨sa0, sn0, sc0⟩, tag0⟩ := q0
  dsimp only at hn0 hc0 hm0 hsh0 hq0 hbd0
  subst hn0
  exact WireIs_calls k0 sl0 tg0 mb0 bd0 sa0 sc0 ys0 tag0 (Sat.start W) (hsh0.rds 0 rfl) hbd0
theorem proved : Rows.WireIsSaid :=
  OpenClaim.holds_of_wide 14 Try.f14 rfl rfl rfl rfl rfl rfl rfl ⟨rfl, rfl, rfl, rfl, rfl⟩ rfl rfl rfl rfl rfl (by kernel_rfl) Try.func14 (by kernel_rfl)
    (of_decide_eq_true (by kernel_rfl)) (by unfold Func.isWrapper; first | (rw [if_pos (by decide +kernel)]; kernel_rfl) | (rw [if_neg (by decide +kernel)]; exact ⟨rfl, rfl⟩))
    (fun os started H enc _ => lifted os started H enc)
end Go.Proofs.Ytgdlddjalilmhaa.RWireIs
